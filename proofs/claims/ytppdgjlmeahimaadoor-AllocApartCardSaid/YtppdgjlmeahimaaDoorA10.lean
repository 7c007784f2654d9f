/- Texts of this claim. -/
import Derived.Test.YtppdgjlmeahimaaDoorA9
namespace Go.Proofs.YtppdgjlmeahimaaDoor
open Go.RowKit
set_option maxRecDepth 100000
attribute [local irreducible] OW RS
theorem Per.cellN {w : World} {p : Addr} {v : Value} (h : w.cell? p = some v) : Per No w (fun z => z.cell? p = some v) := fun _ hb =>
 (hb.cell (World.block_lt_of_cell? w _ h) (fun hx => hx.elim)).trans h
theorem right1_any (w : World) (cap c n1 : Nat) (A : Option Addr) (m : List Int) (hb4 : Blk w cap 28 #[.slice A m.length c]) (hm : IntsA n1 w A m) (r o : Nat) (x y : Int) (hr : m[r]? = some x) (ho : m[o]? = some y) : Calls Tryd.prog 21 #[.int .i64 ((r : Nat) : Int), .int .i64 ((o : Nat) : Int), .pointer (some ⟨cap, 0, none⟩)] w fun e w' => e = .returned (.bool (x != y)) ∧ Below w.heap.size w w' := by
 have hl := hm.len;have hrl := (List.getElem?_eq_some_iff.1 hr).1;have hol := (List.getElem?_eq_some_iff.1 ho).1;refine qp Tryd.func21 rfl Tryd.ntmps21 rfl ?_;have HF : Per (No) w (fun _ => True) := Per.true_;have LW := erx (No) w;have XLW := grx (No) w;have E := erx (No) w;replace HF := HF.on E;replace LW := LW.step E XLW;replace E := erx (No) w
 replace HF := HF.and (Per.blkN hb4 NotIn.nil);obtain ⟨g1, o1, hA1, hg1, hc1⟩ := hm.cell hr;obtain ⟨g2, o2, hA2, hg2, hc2⟩ := hm.cell ho;replace HF := HF.on E;replace LW := LW.step E XLW;replace E := erx (No) w;replace HF := HF.and (Per.cellN hc1);replace HF := HF.on E;replace LW := LW.step E XLW;replace E := erx (No) w;replace HF := HF.and (Per.cellN hc2);refine srx (anx rfl (zp ?_))
 have OY : ∀ q9, (Mut (outM [])) q9 → q9 < (World.drew w).heap.size → (No) q9 := fun k h _ => (Mut.none_) k h;refine ziz (No) Mut.none_ [] [] (xt [Fx.of (.slice A m.length c),
  Fx.of (.int .i64 ((r : Nat) : Int)),
  Fx.of (.pointer (some ⟨g1, o1 + r, none⟩)),
  Fx.of (.int .i64 x),
  Fx.of (.slice A m.length c),
  Fx.of (.int .i64 ((o : Nat) : Int)),
  Fx.of (.pointer (some ⟨g2, o2 + o, none⟩)),
  Fx.of (.int .i64 y),
  Fx.of (.bool (x != y)),
  Fx.of (.bool (x != y))]) gh rfl trivial (fun _ h => by cases h) ?_ ?_
 · refine ⟨?_, ?_, ?_, ?_, ?_, ?_, ?_, ?_, ?_, ?_, trivial⟩
   · intro vs X wq K;have LE := K.1;exact zr Tryd.underlying28 rfl rfl ((((HF.on (E.drew.trans (LE.mono OY))).here.1.1.2).cell 0).trans rfl) ⟨Below.refl _ _, Left.of rfl⟩
   · intro vs X wq K;exact zh rfl ⟨Below.refl _ _, Left.of rfl⟩
   · intro vs X wq K;obtain ⟨_, e0, k0⟩ := K.dep 0 rfl rfl rfl;refine zf 6 (.slice A m.length c) rfl e0 ?_;obtain ⟨_, e1, k1⟩ := K.dep 1 rfl rfl rfl;refine zf 7 (.int .i64 ((r : Nat) : Int)) rfl e1 ?_;exact zi (j := r) Tryd.underlying28 sz3 (congrArg (fun z ↦ some (Value.slice z m.length c)) hA1) rfl rfl hrl ⟨Below.refl _ _, Left.of rfl⟩
   · intro vs X wq K;have LE := K.1;obtain ⟨_, e2, k2⟩ := K.dep 2 rfl rfl rfl;refine zf 8 (.pointer (some ⟨g1, o1 + r, none⟩)) rfl e2 ?_;exact zr Tryd.underlying3 rfl rfl ((HF.on (E.drew.trans (LE.mono OY))).here.1.2) ⟨Below.refl _ _, Left.of rfl⟩
   · intro vs X wq K;have LE := K.1;exact zr Tryd.underlying28 rfl rfl ((((HF.on (E.drew.trans (LE.mono OY))).here.1.1.2).cell 0).trans rfl) ⟨Below.refl _ _, Left.of rfl⟩
   · intro vs X wq K;exact zh rfl ⟨Below.refl _ _, Left.of rfl⟩
   · intro vs X wq K;obtain ⟨_, e4, k4⟩ := K.dep 4 rfl rfl rfl;refine zf 10 (.slice A m.length c) rfl e4 ?_;obtain ⟨_, e5, k5⟩ := K.dep 5 rfl rfl rfl;refine zf 11 (.int .i64 ((o : Nat) : Int)) rfl e5 ?_;exact zi (j := o) Tryd.underlying28 sz3 (congrArg (fun z ↦ some (Value.slice z m.length c)) hA2) rfl rfl hol ⟨Below.refl _ _, Left.of rfl⟩
   · intro vs X wq K;have LE := K.1;obtain ⟨_, e6, k6⟩ := K.dep 6 rfl rfl rfl;refine zf 12 (.pointer (some ⟨g2, o2 + o, none⟩)) rfl e6 ?_;exact zr Tryd.underlying3 rfl rfl ((HF.on (E.drew.trans (LE.mono OY))).here.2) ⟨Below.refl _ _, Left.of rfl⟩
   · intro vs X wq K;obtain ⟨_, e3, k3⟩ := K.dep 3 rfl rfl rfl;refine zf 9 (.int .i64 x) rfl e3 ?_;obtain ⟨_, e7, k7⟩ := K.dep 7 rfl rfl rfl;refine zf 13 (.int .i64 y) rfl e7 ?_;exact qr rfl rfl ⟨Below.refl _ _, Left.of rfl⟩
   · intro vs X wq K;obtain ⟨_, e8, k8⟩ := K.dep 8 rfl rfl rfl;refine zf 14 (.bool (x != y)) rfl e8 ?_;exact ym rfl ⟨Below.refl _ _, Left.of rfl⟩
 intro vs w1 LE AO AL AF AA;replace E := E.drew.trans (LE.mono OY);obtain ⟨_, e9, k9⟩ := AL.2.2.2.2.2.2.2.2.2.1;refine vx (τ := [(5, .bool (x != y))]) ⟨congrArg some e9, trivial⟩ ?_;clear AL AF AA LE AO OY e9 k9;refine zj (zy (zx (rs := [.tmp 5]) (vs := [_]) rfl ⟨rfl, trivial⟩ ?_));exact ⟨rfl, (LW.step E XLW).toBelow⟩
def RJ (cap c n1 : Nat) (A : Option Addr) (m : List Int) (D : Nat → Nat → Prop) (w : World) : Prop := Blk w cap 28 #[.slice A m.length c] ∧ IntsA n1 w A m ∧ ∀ (r o : Nat) (x y : Int), D r o → m[r]? = some x → m[o]? = some y → x ≠ y
theorem RJ.step {cap c n1 : Nat} {A : Option Addr} {m : List Int} {D D' : Nat → Nat → Prop} {w w' : World} {Y : Nat → Prop} (h : RJ cap c n1 A m D w) (e : Ext Y w w') (h1 : ¬ Y cap) (h2 : ∀ k, Y k → n1 ≤ k) (hd : ∀ (r o : Nat) (x y : Int), D' r o → m[r]? = some x → m[o]? = some y → x ≠ y) : RJ cap c n1 A m D' w' := ⟨h.1.ext e h1, h.2.1.low (X := Y) ⟨e, h2⟩, hd⟩
theorem right_each {cap c n1 R : Nat} {A : Option Addr} {m : List Int} {w0 : World} (hc : cap < w0.heap.size) (hn : n1 ≤ w0.heap.size) (hl : R = m.length) : EachOk 21 #[.pointer (some ⟨cap, 0, none⟩)] R No (RJ cap c n1 A m) (fun r o => ∃ x y, m[r]? = some x ∧ m[o]? = some y ∧ x = y) w0 where
 keep := fun D w w' Y h e hY => h.step e (fun h => by have := hY _ h; omega) (fun k h => Nat.le_trans hn (hY k h)) h.2.2
 call := fun D w r o h _ hr ho => by
  subst hl;obtain ⟨x, hx⟩ : ∃ x, m[r]? = some x := ⟨_, List.getElem?_eq_getElem hr⟩;obtain ⟨y, hy⟩ : ∃ y, m[o]? = some y := ⟨_, List.getElem?_eq_getElem ho⟩;rw [show (#[.int .i64 ((r : Nat) : Int), .int .i64 ((o : Nat) : Int)] ++ #[.pointer (some ⟨cap, 0, none⟩)] : Array Value) = #[.int .i64 ((r : Nat) : Int), .int .i64 ((o : Nat) : Int), .pointer (some ⟨cap, 0, none⟩)] from rfl]
  refine (right1_any w cap c n1 A m h.1 h.2.1 r o x y hx hy).mono fun e w' h2 => ⟨x != y, h2.1, Ext.of_below h2.2 No, fun hb => h.step (Ext.of_below h2.2 No) (fun h => h.elim) (fun _ h => h.elim) fun r' o' x' y' hd hx' hy' => ?_, fun hb => ⟨x, y, hx, hy, by simpa using hb⟩⟩;rcases hd with hd | ⟨rfl, rfl⟩
  · exact h.2.2 r' o' x' y' hd hx' hy'
  · rw [hx] at hx';rw [hy] at hy';obtain rfl := Option.some.inj hx';obtain rfl := Option.some.inj hy';simpa using hb
theorem meets_right {w : World} {p : Pl} {f : LFn} {n0 b0 cl cap c n1 : Nat} {AL A : Option Addr} {W : List (List Nat)} {m : List Int} (hF : FnA n0 w p f) (hs :     qf f = true) (hD : DbT w) (hW : Rows64 W f.ins.length (    jh f)) (hL : ∀ a r,   vb W a r = true ↔ Liv f a r) (hA : RowsW b0 w AL W) (hb0 : n0 ≤ b0) (hdb : 0 < b0)
 (h4 : Blk w cap 28 #[.slice A m.length c]) (hm : IntsA n1 w A m) (hn : n1 ≤ w.heap.size) (hl : (m.length : Int) = f.regs) : Calls Tryd.prog 20 #[fnV p f, .slice AL f.ins.length cl, .func (.func 21) #[] #[.pointer (some ⟨cap, 0, none⟩)]] w fun e w' => ∃ b, e = .returned (.bool b) ∧ (b = true ↔ ∀ (r o : Nat) (x y : Int), Met f r o → m[r]? = some x → m[o]? = some y → x ≠ y) ∧ Below w.heap.size w w' :=
 (meets_any w p f n0 b0 cl AL W hF hs hD hW hL hA hb0 hdb _ _ No (RJ cap c n1 A m) _ (fun _ h => h.elim) (right_each h4.lt hn (by omega)) en21 ⟨h4, hm, fun _ _ _ _ h => h.elim⟩).mono fun e w' h => by
  obtain ⟨hE, h⟩ := h;rcases h with ⟨he, D, hD, hJ⟩ | ⟨he, r, o, hM, x, y, hx, hy, hxy⟩
  · exact ⟨true, he, ⟨fun _ r o x y hM => hJ.2.2 r o x y ((hD r o).2 hM), fun _ => rfl⟩, hE.toBelow⟩
  · exact ⟨false, he, ⟨fun h => (by cases h), fun h => absurd hxy (h r o x y hM hx hy)⟩, hE.toBelow⟩
theorem live_no {w : World} {p : Pl} {f : LFn} {n0 : Nat} (hF : FnA n0 w p f) (hs : qf f = false) : Calls Tryd.prog 19 #[fnV p f] w fun e w' => e = .returned (.tuple #[.slice none 0 0, .int .i64 3]) ∧ Below w.heap.size w w' :=
 (live_any w p f n0 hF).mono fun _ _ h => ⟨h.2.1 hs, h.1⟩
theorem live_yes {w : World} {p : Pl} {f : LFn} {n0 : Nat} (hF : FnA n0 w p f) (hs :     qf f = true) : Calls Tryd.prog 19 #[fnV p f] w fun e w' => ∃ A c W, e = .returned (.tuple #[.slice A f.ins.length c, .int .i64 0]) ∧ Rows64 W f.ins.length (    jh f) ∧ (∀ a r,   vb W a r = true ↔ Liv f a r) ∧ RowsW w'.heap.size w' A W ∧ Below w.heap.size w w' :=
 (live_any w p f n0 hF).mono fun _ _ h => by
  obtain ⟨A, c, W, h1, h2, h3, h4⟩ := h.2.2 hs;exact ⟨A, c, W, h1, h2, h3, h4, h.1⟩
def kx (f : LFn) (n : Int) (r : Nat) (x : Int) : Prop := 0 ≤ x ∧ x < n ∧ ((r : Int) < f.params → x = (r : Int)) ∧ (f.params ≤ (r : Int) → x < f.params → ¬ Liv f 0 r)
theorem xj {f : LFn} {n : Int} {m : List Int} {i : Nat} {y : Int} (hy : m[i]? = some y) (hok : ∀ (r : Nat) (x : Int), r < i → m[r]? = some x → kx f n r x) (h : kx f n i y) : ∀ (r : Nat) (x : Int), r < i + 1 → m[r]? = some x → kx f n r x := fun r x hr hx => by
 rcases Nat.lt_or_ge r i with h1 | h1
 · exact hok r x h1 hx
 · obtain rfl : r = i := by omega
   rw [hy] at hx;obtain rfl := Option.some.inj hx;exact h
theorem right_any (w : World) (p : Pl) (f : LFn) (n0 : Nat) (hF : FnA n0 w p f) (A : Option Addr) (c n1 : Nat) (m : List Int) (hm : IntsA n1 w A m) (n : Int) (hn : I64 n) (hn1 : n1 ≤ w.heap.size) (hD : DbT w) : Calls Tryd.prog 9 #[fnV p f, .slice A m.length c, .int .i64 n] w fun e w' => ∃ b, e = .returned (.bool b) ∧ (b = true ↔ ko f m n) ∧ Below w.heap.size w w' := by
 have hml := hm.len;have hn00 := hF.size;have hdb0 : 0 < w.heap.size := World.block_lt_of_cell? w _ (hD 0 0 rfl);refine qp Tryd.func9 rfl Tryd.ntmps9 rfl ?_;have HF : Per (No) w (fun _ => True) := Per.true_;have LW := erx (No) w;have XLW := grx (No) w;have E := erx (No) w;replace HF := HF.on E;replace LW := LW.step E XLW;replace E := erx (No) w
 replace HF := HF.and (Per.fnA hF (fun _ h => h.elim));replace HF := HF.on E;replace LW := LW.step E XLW;replace E := erx (No) w;replace HF := HF.and (Per.ints hm (fun _ h => h.elim));replace HF := HF.on E;replace LW := LW.step E XLW;replace E := erx (No) w;replace HF := HF.and (Per.dbT hD (fun _ h => h.elim));by_cases hs : qf f = true
 ·
  obtain ⟨hr0, hr1, hp0, hp1, hne⟩ := jn hs;refine srx (za rfl (vq rfl ?_));intro gb1 w2 Bb1 Eb1 Gb1;have Gb1 : _ ≤ gb1 := Nat.le_trans E.size Gb1;have GLb1 := Nat.le_trans LW.size Gb1;replace E := E.trans Eb1.no;replace HF := HF.cons (yf Gb1);replace E := E.cons (some gb1);replace XLW := Mut.grow XLW (fun k e => Or.inr (Nat.le_trans LW.size ((yf Gb1) k e)))
  replace HF := HF.on E;replace LW := LW.step E XLW;have SB : ∀ q9, No q9 → Mut [(some gb1)] q9 := (Mut.skip Mut.nil_);replace HF := HF.less SB;replace XLW := fun k h => XLW k (SB k h);clear SB;replace E := erx (No) w2;replace HF := HF.and (Per.blkN Bb1 NotIn.nil);refine za rfl (vq rfl ?_);intro gb3 w4 Bb3 Eb3 Gb3;have Gb3 : _ ≤ gb3 := Nat.le_trans E.size Gb3
  have GLb3 := Nat.le_trans LW.size Gb3;replace E := E.trans Eb3.no;replace HF := HF.cons (yf Gb3);replace E := E.cons (some gb3);replace XLW := Mut.grow XLW (fun k e => Or.inr (Nat.le_trans LW.size ((yf Gb3) k e)))
  refine anx rfl (srx (za rfl (qa Tryd.underlying27 rfl oh rfl (HF.on E).here.2 rfl (za rfl (yj en19 rfl ((live_yes (HF.on E).here.1.1.1.2 hs).mono ?_))))));rintro e w5 ⟨AL, cL, W, rfl, hW, hL, hA, hb⟩;refine ⟨_, rfl, ?_⟩;have Ec := Ext.of_below hb No;replace Bb3 := Bb3.extN Ec NotIn.nil;replace E := E.trans Ec.no;replace HF := HF.on E;replace LW := LW.step E XLW
  have SB : ∀ q9, No q9 → Mut [(some gb3)] q9 := (Mut.skip Mut.nil_);replace HF := HF.less SB;replace XLW := fun k h => XLW k (SB k h);clear SB;replace E := erx (No) w5;replace HF := HF.and (Per.blkN Bb3 NotIn.nil);obtain ⟨bz, hbz⟩ : ∃ bz, bz = w5.heap.size := ⟨_, rfl⟩;have hnz : w.heap.size ≤ bz := by rw [hbz]; exact ((LW.step E XLW).toBelow).size
  have hnb : n0 ≤ bz := Nat.le_trans hn00 hnz;rw [← hbz] at hA;replace HF := HF.on E;replace LW := LW.step E XLW;replace E := erx (No) w5;replace HF := HF.and (Per.rowsW hA (fun _ h => h.elim))
  refine mvx rfl (za rfl (qm rfl rfl (za rfl (qm rfl rfl (avx rfl (anx rfl (zp (srx (mvx rfl (za rfl (qr rfl rfl (mvx rfl (onx rfl (zg Tryd.underlying28 rfl rfl (HF.on E).here.1.2 rfl (onx rfl (qg Tryd.underlying28 rfl (onx rfl (zd Tryd.underlying27 rfl sz3 (by decide) rfl (onx rfl (zg Tryd.underlying3 rfl rfl (HF.on E).here.1.1.2 rfl (onx rfl (qr rfl rfl (za rfl (ya rfl rfl (mvx rfl (yo 25 rfl (fun h1 => ?_) (fun h1 => ?_)))))))))))))))))))))))))))
  ·
   have h1 : (m.length : Int) ≠ f.regs := by simpa using h1
   refine za rfl (zb rfl (za rfl (zb rfl (za rfl (zb rfl (za rfl (zb rfl (za rfl (zn rfl rfl (mvx rfl (za rfl (zb rfl (za rfl (zb rfl (za rfl (zb rfl (za rfl (zb rfl (za rfl (zn rfl rfl (rnx (qb rfl (srx (anx rfl (zy (zc (zx (rs := [.tmp 6]) (vs := [_]) rfl ⟨rfl, trivial⟩ ?_)))))))))))))))))))))))))))
   exact ⟨false, rfl, ⟨fun h => (by cases h), fun h => absurd h.2.1 h1⟩, (LW.step E XLW).toBelow⟩
  ·
   have h1 : (m.length : Int) = f.regs := by simpa using h1
   refine onx rfl (zh rfl (onx rfl (zd Tryd.underlying27 rfl sz3 (by decide) rfl (onx rfl (zg Tryd.underlying3 rfl rfl (HF.on E).here.1.1.2 rfl (onx rfl (yu rfl rfl (za rfl (ya rfl rfl (mvx rfl (yo 31 rfl (fun h2 => ?_) (fun h2 => ?_))))))))))))
   ·
    have h2 := of_decide_eq_true h2;refine za rfl (zb rfl (za rfl (zb rfl (za rfl (zb rfl (za rfl (zb rfl (za rfl (zn rfl rfl (rnx (qb rfl (srx (anx rfl (zy (zc (zx (rs := [.tmp 6]) (vs := [_]) rfl ⟨rfl, trivial⟩ ?_))))))))))))))));exact ⟨false, rfl, ⟨fun h => (by cases h), fun h => absurd h.2.2.1 (by omega)⟩, (LW.step E XLW).toBelow⟩
   ·
    have h2 := of_decide_eq_false h2;refine onx rfl (zh rfl (onx rfl (zd Tryd.underlying27 rfl sz3 (by decide) rfl (onx rfl (zg Tryd.underlying3 rfl rfl (HF.on E).here.1.1.2 rfl (onx rfl (xn rfl rfl (za rfl (ya rfl rfl (rnx (zw rfl (fun h3 => ?_) (fun h3 => ?_))))))))))))
    ·
     have h3 := of_decide_eq_true h3;refine srx (anx rfl (zy (zc (zx (rs := [.tmp 6]) (vs := [_]) rfl ⟨rfl, trivial⟩ ?_))));exact ⟨false, rfl, ⟨fun h => (by cases h), fun h => absurd h.2.2.2.1 (by omega)⟩, (LW.step E XLW).toBelow⟩
    ·
     have h3 := of_decide_eq_false h3;refine zt (zj (zp (srx (za rfl (zg Tryd.underlying28 rfl rfl (HF.on E).here.1.2 rfl (za rfl (qg Tryd.underlying28 rfl (mvx rfl (rnx (yb ?_))))))))));replace HF := HF.on E;replace LW := LW.step E XLW;replace E := erx (No) w5
     refine qn (ι := Nat) (fun i => [(2, .int .i64 n), (3, .pointer (some ⟨gb1, 0, none⟩)), (4, .pointer (some ⟨gb3, 0, none⟩)), (7, .slice AL f.ins.length cL), (37, .slice A m.length c), (38, .int .i64 ((m.length : Nat) : Int)), (39, .int .i64 ((i : Nat) : Int))]) (fun i w' => Ext (No) w5 w' ∧ (i ≤ m.length ∧ ∀ (r : Nat) (x : Int), r < i → m[r]? = some x → kx f n r x)) (fun i => m.length - i) 0 ⟨rfl, rfl, rfl, rfl, rfl, rfl, rfl, trivial⟩ ⟨Ext.refl _ _, ⟨Nat.zero_le _, fun r x h => absurd h (Nat.not_lt_zero _)⟩⟩ ?_
     rintro i w7 ⟨M6, ⟨him, hok⟩⟩;have XM6 := grx (No) w5;replace E := E.trans M6;replace HF := HF.on E;replace LW := LW.step E XLW;replace E := erx (No) w7;refine srx (za rfl (yu rfl rfl (rnx (zp (zw rfl (fun hi => ?_) (fun hi => ?_))))))
     ·
      have hi := of_decide_eq_true hi;have him2 : i < m.length := by omega
      obtain ⟨y, hy⟩ : ∃ y, m[i]? = some y := ⟨_, List.getElem?_eq_getElem him2⟩;obtain ⟨gm, om, hAm, hgm, hcm⟩ := ((HF.on E).here.1.1.1.1.2).cell hy;refine zt (zj (zp (yb (srx (mvx rfl (za rfl (zi (j := i) Tryd.underlying28 sz3 (congrArg (fun z ↦ some (Value.slice z m.length c)) hAm) rfl rfl him2 (za rfl (zr Tryd.underlying3 rfl rfl hcm ?_)))))))))
      have hno : ¬ kx f n i y → ¬ ko f m n := fun h h2 => h (h2.2.2.2.2.1 i y hy);refine avx rfl (anx rfl (srx (mvx rfl (za rfl (yu rfl rfl (mvx rfl (yo 46 rfl (fun q1 => ?_) (fun q1 => ?_))))))))
      ·
       have q1 := of_decide_eq_true q1
       refine za rfl (zb rfl (za rfl (zb rfl (za rfl (zb rfl (za rfl (zn rfl rfl (mvx rfl (za rfl (zb rfl (za rfl (zb rfl (za rfl (zb rfl (za rfl (zb rfl (za rfl (zb rfl (za rfl (zz rfl rfl (za rfl (zz rfl rfl (za rfl (zz rfl rfl (za rfl (zb rfl (za rfl (zn rfl rfl (mvx rfl (za rfl (zb rfl (za rfl (zb rfl (za rfl (zb rfl (za rfl (zb rfl (za rfl (zb rfl (za rfl (zz rfl rfl (za rfl (zz rfl rfl (za rfl (zz rfl rfl (za rfl (zz rfl rfl (za rfl (zb rfl (za rfl (zb rfl (za rfl (zz rfl rfl (za rfl (zz rfl rfl (za rfl (zz rfl rfl (za rfl (zz rfl rfl (za rfl (zz rfl rfl (za rfl (zz rfl rfl (za rfl (zz rfl rfl (za rfl (zz rfl rfl (za rfl (zz rfl rfl (za rfl (zz rfl rfl (za rfl (zz rfl rfl (za rfl (zz rfl rfl (za rfl (zb rfl ?_)))))))))))))))))))))))))))))))))))))))))))))))))))))))))))))))))))))))))))))
       refine za rfl (zn rfl rfl (rnx (qb rfl (srx (anx rfl (zy (ze (zc (zc (ze (zc (zx (rs := [.tmp 6]) (vs := [_]) rfl ⟨rfl, trivial⟩ ?_))))))))))));exact ⟨false, rfl, ⟨fun h => (by cases h), fun h => absurd h (hno fun h => by exact absurd h.1 (by omega))⟩, (LW.step E XLW).toBelow⟩
      ·
       have q1 := of_decide_eq_false q1;refine onx rfl (zh rfl (onx rfl (zh rfl (onx rfl (gz rfl rfl (za rfl (ya rfl rfl (mvx rfl (yo 51 rfl (fun q2 => ?_) (fun q2 => ?_))))))))))
       ·
        have q2 := of_decide_eq_true q2
        refine za rfl (zb rfl (za rfl (zb rfl (za rfl (zb rfl (za rfl (zb rfl (za rfl (zb rfl (za rfl (zz rfl rfl (za rfl (zz rfl rfl (za rfl (zz rfl rfl (za rfl (zb rfl (za rfl (zn rfl rfl (mvx rfl (za rfl (zb rfl (za rfl (zb rfl (za rfl (zb rfl (za rfl (zb rfl (za rfl (zb rfl (za rfl (zz rfl rfl (za rfl (zz rfl rfl (za rfl (zz rfl rfl (za rfl (zz rfl rfl (za rfl (zb rfl (za rfl (zb rfl (za rfl (zz rfl rfl (za rfl (zz rfl rfl (za rfl (zz rfl rfl (za rfl (zz rfl rfl (za rfl (zz rfl rfl (za rfl (zz rfl rfl (za rfl (zz rfl rfl (za rfl (zz rfl rfl (za rfl (zz rfl rfl (za rfl (zz rfl rfl (za rfl (zz rfl rfl (za rfl (zz rfl rfl (za rfl (zb rfl (za rfl (zn rfl rfl (rnx (qb rfl (zp ?_)))))))))))))))))))))))))))))))))))))))))))))))))))))))))))))))))))))))))
        refine zv (anx rfl (zy (ze (zc (zc (ze (zc (zx (rs := [.tmp 6]) (vs := [_]) rfl ⟨rfl, trivial⟩ ?_))))))));exact ⟨false, rfl, ⟨fun h => (by cases h), fun h => absurd h (hno fun h => by exact absurd h.2.1 (by omega))⟩, (LW.step E XLW).toBelow⟩
       ·
        have q2 := of_decide_eq_false q2;refine onx rfl (zh rfl (onx rfl (zd Tryd.underlying27 rfl sz3 (by decide) rfl (onx rfl (zg Tryd.underlying3 rfl rfl (HF.on E).here.1.1.2 rfl (onx rfl (yu rfl rfl (onx rfl (zh rfl (yo 56 rfl (fun q3 => ?_) (fun q3 => ?_)))))))))))
        ·
         have q3 := of_decide_eq_true q3;refine onx rfl (zh rfl (onx rfl (zh rfl (onx rfl (qr rfl rfl (onx rfl (zn rfl rfl (za rfl (ya rfl rfl (mvx rfl (yo 62 rfl (fun q4 => ?_) (fun q4 => ?_))))))))))))
         ·
          have q4 : y ≠ (i : Int) := by simpa using q4
          refine za rfl (zb rfl (za rfl (zb rfl (za rfl (zb rfl (za rfl (zb rfl (za rfl (zb rfl (za rfl (zz rfl rfl (za rfl (zz rfl rfl (za rfl (zz rfl rfl (za rfl (zz rfl rfl (za rfl (zb rfl (za rfl (zb rfl (za rfl (zz rfl rfl (za rfl (zz rfl rfl (za rfl (zz rfl rfl (za rfl (zz rfl rfl (za rfl (zz rfl rfl (za rfl (zz rfl rfl (za rfl (zz rfl rfl (za rfl (zz rfl rfl (za rfl (zz rfl rfl (za rfl (zz rfl rfl (za rfl (zz rfl rfl (za rfl (zz rfl rfl (za rfl (zb rfl (za rfl (zn rfl rfl (rnx (qb rfl (srx (anx rfl (zy (ze (zc (zc (ze (zc (zx (rs := [.tmp 6]) (vs := [_]) rfl ⟨rfl, trivial⟩ ?_))))))))))))))))))))))))))))))))))))))))))))))))))))))))))))
          exact ⟨false, rfl, ⟨fun h => (by cases h), fun h => absurd h (hno fun h => by exact q4 (h.2.2.1 q3))⟩, (LW.step E XLW).toBelow⟩
         ·
          have q4 : y = (i : Int) := by simpa using q4
          refine onx rfl (zh rfl (onx rfl (zd Tryd.underlying27 rfl sz3 (by decide) rfl (onx rfl (zg Tryd.underlying3 rfl rfl (HF.on E).here.1.1.2 rfl (onx rfl (gz rfl rfl (onx rfl (zh rfl (yo 67 rfl (fun q5 => ?_) (fun q5 => ?_)))))))))))
          ·
           exact absurd (of_decide_eq_true q5) (by omega)
          ·
           have hpo : kx f n i y := ⟨by omega, by omega, fun _ => q4, fun h => absurd h (by omega)⟩
           refine za rfl (zb rfl (za rfl (zb rfl (za rfl (zb rfl (za rfl (zb rfl (onx rfl (ya rfl rfl (onx rfl (zh rfl (za rfl (zb rfl (za rfl (zb rfl (za rfl (zb rfl (za rfl (zb rfl (za rfl (zb rfl (za rfl (zb rfl (za rfl (zb rfl (za rfl (zb rfl (za rfl (zb rfl (za rfl (zb rfl (za rfl (zb rfl (za rfl (zb rfl (onx rfl (ya rfl rfl (za rfl (ya rfl rfl (rnx (vf rfl (zt (zl (zj (zv (za rfl (yq rfl rfl (zq (by omega)) (mvx rfl (yt ?_)))))))))))))))))))))))))))))))))))))))))))))))))
           exact yp (i + 1) (by show m.length - (i + 1) < m.length - i; omega) ⟨rfl, rfl, rfl, rfl, rfl, rfl, rfl, trivial⟩ ⟨M6.step E XM6, ⟨him2, xj hy hok hpo⟩⟩
        ·
         have q3 := of_decide_eq_false q3
         refine za rfl (zb rfl (za rfl (zb rfl (za rfl (zb rfl (onx rfl (ya rfl rfl (za rfl (ya rfl rfl (mvx rfl (onx rfl (zh rfl (onx rfl (zd Tryd.underlying27 rfl sz3 (by decide) rfl (onx rfl (zg Tryd.underlying3 rfl rfl (HF.on E).here.1.1.2 rfl (onx rfl (gz rfl rfl (onx rfl (zh rfl (yo 67 rfl (fun q5 => ?_) (fun q5 => ?_))))))))))))))))))))))
         ·
          refine onx rfl (zh rfl (onx rfl (zd Tryd.underlying27 rfl sz3 (by decide) rfl (onx rfl (zg Tryd.underlying3 rfl rfl (HF.on E).here.1.1.2 rfl (onx rfl (yu rfl rfl (onx rfl (zn rfl rfl (onx rfl (zh rfl (yo 73 rfl (fun q6 => ?_) (fun q6 => ?_)))))))))))))
          ·
           have q6 := of_decide_eq_true q6;have hN0 : 0 < f.ins.length := List.length_pos_iff.2 hne;obtain ⟨row, hrow⟩ : ∃ row, W[0]? = some row := ⟨_, List.getElem?_eq_getElem (by rw [hW.1]; exact hN0)⟩;have hr64 := hW.2 row (List.mem_of_getElem? hrow);have hil : i / 64 < row.length := by rw [hr64.1]; unfold jh; omega
           obtain ⟨x0, hx0⟩ : ∃ x0, row[i / 64]? = some x0 := ⟨_, List.getElem?_eq_getElem hil⟩;have hx064 := hr64.2 x0 (List.mem_of_getElem? hx0);obtain ⟨gL, oL, hAL, hgL, BL, cB, hU, hcL⟩ := RowS.at ((HF.on E).here.2) hrow;obtain ⟨gU, oU, hAU, hgU, hcU⟩ := hU.cell hx0;have hbit : vb W 0 i = x0.testBit (i % 64) := by
            unfold vb jj;rw [List.getD_eq_getElem?_getD (i := 0), hrow, Option.getD_some, List.getD_eq_getElem?_getD, hx0]; rfl
           refine onx rfl (zh rfl (onx rfl (zi (j := 0) Tryd.underlying52 sz55 (congrArg (fun z ↦ some (Value.slice z f.ins.length cL)) hAL) rfl rfl hN0 (onx rfl (zr Tryd.underlying55 rfl rfl hcL (onx rfl (zh rfl (onx rfl (xm rfl rfl (by decide) (show IntKind.i64.wrap (((i : Nat) : Int).tdiv 64) = ((i / 64 : Nat) : Int) from by rw [Int.tdiv_eq_ediv_of_nonneg (by omega)]; exact zq (by omega)) (onx rfl (zi (j := i / 64) Tryd.underlying55 kq (congrArg (fun z ↦ some (Value.slice z row.length cB)) hAU) rfl rfl hil (onx rfl (zr Tryd.underlying35 rfl rfl hcU (onx rfl (zh rfl (onx rfl (xl rfl rfl (by decide) (show (((i : Nat) : Int).tmod 64) = ((i % 64 : Nat) : Int) from by rw [Int.tmod_eq_emod_of_nonneg (by omega)]; rfl) (onx rfl (ow_shr rfl rfl (by omega) (zov (by omega)) (onx rfl (ja rfl rfl (kb (y := 1) (by rw [Nat.shiftRight_eq_div_pow]; exact Nat.lt_of_le_of_lt (Nat.div_le_self _ _) hx064) (by decide)) (onx rfl (qk rfl rfl (onx rfl (zn rfl rfl (za rfl (ya rfl rfl (rnx (zw rfl (fun q7 => ?_) (fun q7 => ?_))))))))))))))))))))))))))))))
           ·
            rw [xg, ← hbit] at q7;have q7 := (hL 0 i).1 q7;refine srx (anx rfl (zy (ze (zc (zc (ze (zc (zx (rs := [.tmp 6]) (vs := [_]) rfl ⟨rfl, trivial⟩ ?_))))))));exact ⟨false, rfl, ⟨fun h => (by cases h), fun h => absurd h (hno fun h => by exact h.2.2.2 (by omega) q6 q7)⟩, (LW.step E XLW).toBelow⟩
           ·
            rw [xg, ← hbit] at q7;have q7 : ¬ Liv f 0 i := fun h => by rw [(hL 0 i).2 h] at q7; cases q7
            have hpo : kx f n i y := ⟨by omega, by omega, fun h => absurd h q3, fun _ _ => q7⟩;refine zt (zl (zj (zv (za rfl (yq rfl rfl (zq (by omega)) (mvx rfl (yt ?_)))))))
            exact yp (i + 1) (by show m.length - (i + 1) < m.length - i; omega) ⟨rfl, rfl, rfl, rfl, rfl, rfl, rfl, trivial⟩ ⟨M6.step E XM6, ⟨him2, xj hy hok hpo⟩⟩
          ·
           have q6 := of_decide_eq_false q6;have hpo : kx f n i y := ⟨by omega, by omega, fun h => absurd h q3, fun _ h => absurd h q6⟩
           refine za rfl (zb rfl (za rfl (zb rfl (za rfl (zb rfl (za rfl (zb rfl (za rfl (zb rfl (za rfl (zb rfl (za rfl (zb rfl (za rfl (zb rfl (za rfl (zb rfl (za rfl (zb rfl (za rfl (zb rfl (za rfl (zb rfl (onx rfl (ya rfl rfl (za rfl (ya rfl rfl (rnx (vf rfl (zt (zl (zj (zv (za rfl (yq rfl rfl (zq (by omega)) (mvx rfl (yt ?_)))))))))))))))))))))))))))))))))))))
           exact yp (i + 1) (by show m.length - (i + 1) < m.length - i; omega) ⟨rfl, rfl, rfl, rfl, rfl, rfl, rfl, trivial⟩ ⟨M6.step E XM6, ⟨him2, xj hy hok hpo⟩⟩
         ·
          exact absurd (of_decide_eq_false q5) (by omega)
     ·
      have hi := of_decide_eq_false hi;have hie : i = m.length := by omega
      refine qj (zm (zm (yc (zj (srx (za rfl (qa Tryd.underlying27 rfl oh rfl (HF.on E).here.1.1.2 rfl (mvx rfl (za rfl (oq (xs := [.tmp 4]) rfl (za rfl (yj en20 rfl ((meets_right (HF.on E).here.1.1.1.1.1.2 hs (HF.on E).here.1.1.1.2 hW hL (HF.on E).here.2 hnb (Nat.lt_of_lt_of_le hdb0 hnz) (HF.on E).here.1.2 (HF.on E).here.1.1.1.1.2 (Nat.le_trans hn1 ((LW.step E XLW).toBelow).size) h1).mono ?_)))))))))))))
      rintro e w8 ⟨b, rfl, hbm, hb⟩;refine ⟨_, rfl, ?_⟩;replace E := blx E hb;refine anx rfl (zy (zx (rs := [.tmp 6]) (vs := [_]) rfl ⟨rfl, trivial⟩ ?_));exact ⟨b, rfl, hbm.trans ⟨fun h => ⟨hs, h1, by omega, by omega, fun r x hx => hok r x (by rw [hie]; exact (List.getElem?_eq_some_iff.1 hx).1) hx, h⟩, fun h => h.2.2.2.2.2⟩, (LW.step E XLW).toBelow⟩
 ·
  have hs : qf f = false := by simpa using hs
  refine srx (za rfl (vq rfl ?_));intro gb9 w10 Bb9 Eb9 Gb9;have Gb9 : _ ≤ gb9 := Nat.le_trans E.size Gb9;have GLb9 := Nat.le_trans LW.size Gb9;replace E := E.trans Eb9.no;replace HF := HF.cons (yf Gb9);replace E := E.cons (some gb9);replace XLW := Mut.grow XLW (fun k e => Or.inr (Nat.le_trans LW.size ((yf Gb9) k e)));replace HF := HF.on E;replace LW := LW.step E XLW
  have SB : ∀ q9, No q9 → Mut [(some gb9)] q9 := (Mut.skip Mut.nil_);replace HF := HF.less SB;replace XLW := fun k h => XLW k (SB k h);clear SB;replace E := erx (No) w10;replace HF := HF.and (Per.blkN Bb9 NotIn.nil);refine za rfl (vq rfl ?_);intro gb11 w12 Bb11 Eb11 Gb11;have Gb11 : _ ≤ gb11 := Nat.le_trans E.size Gb11;have GLb11 := Nat.le_trans LW.size Gb11;replace E := E.trans Eb11.no
  replace HF := HF.cons (yf Gb11);replace E := E.cons (some gb11);replace XLW := Mut.grow XLW (fun k e => Or.inr (Nat.le_trans LW.size ((yf Gb11) k e)));refine anx rfl (srx (za rfl (qa Tryd.underlying27 rfl oh rfl (HF.on E).here.2 rfl (za rfl (yj en19 rfl ((live_no (HF.on E).here.1.1.1.2 hs).mono ?_))))));rintro e w13 ⟨rfl, hb⟩;refine ⟨_, rfl, ?_⟩
  have Ec := Ext.of_below hb No;replace Bb11 := Bb11.extN Ec NotIn.nil;replace E := E.trans Ec.no
  refine mvx rfl (za rfl (qm rfl rfl (za rfl (qm rfl rfl (avx rfl (anx rfl (zp (srx (mvx rfl (za rfl (qr rfl rfl (mvx rfl (za rfl (zb rfl (za rfl (zb rfl (za rfl (zb rfl (za rfl (zb rfl (za rfl (zb rfl (za rfl (zn rfl rfl (mvx rfl (za rfl (zb rfl (za rfl (zb rfl (za rfl (zb rfl (za rfl (zb rfl (za rfl (zn rfl rfl (mvx rfl (za rfl (zb rfl (za rfl (zb rfl (za rfl (zb rfl (za rfl (zb rfl (za rfl (zn rfl rfl (rnx (qb rfl (srx (anx rfl (zy ?_)))))))))))))))))))))))))))))))))))))))))))))))))))
  refine zc (zx (rs := [.tmp 6]) (vs := [_]) rfl ⟨rfl, trivial⟩ ?_);exact ⟨false, rfl, ⟨fun h => (by cases h), fun h => by rw [h.1] at hs; cases hs⟩, (LW.step E XLW).toBelow⟩
end Go.Proofs.YtppdgjlmeahimaaDoor
namespace Go.Proofs.YtppdgjlmeahimaaDoor
open Go.RowKit
set_option maxRecDepth 100000
attribute [local irreducible] OW RS
def Held (row : List Nat) (m : List Int) (p : Int) : Prop := ∃ o : Nat, m[o]? = some p ∧ jj row o = true
def FreeP (row : List Nat) (m : List Int) (least p : Int) : Prop := least ≤ p ∧ ¬ Held row m p ∧ ∀ q, least ≤ q → q < p → Held row m q
theorem many_in : ∀ (n : Nat) (c : Int) (m : List Int), (∀ i : Nat, i < n → c + (i : Int) ∈ m) → n ≤ m.length
 | 0, _, _, _ => Nat.zero_le _
 | n + 1, c, m, h => by
  have h1 := h n (Nat.lt_succ_self n);have h2 := many_in n c (m.erase (c + (n : Int))) fun i hi => (List.mem_erase_of_ne (by omega)).2 (h i (by omega));rw [List.length_erase_of_mem h1] at h2;have := List.length_pos_of_mem h1;omega
theorem held_le {row : List Nat} {m : List Int} {least p : Int} (h0 : least ≤ p) (h : ∀ q, least ≤ q → q < p → Held row m q) : p ≤ least + (m.length : Int) := by
 have := many_in (p - least).toNat least m fun i hi => by
  obtain ⟨o, h1, _⟩ := h (least + (i : Int)) (by omega) (by omega);exact List.mem_of_getElem? h1
 omega
section
variable (w : World) (A B : Option Addr) (ca cb n1 : Nat) (row : List Nat) (m : List Int) (hr : U64A n1 w A row) (hm : IntsA n1 w B m) (least : Int) (hl0 : 0 ≤ least) (hl : least ≤ 65536) (hml : m.length ≤ 64 * row.length)
include hr hm hl0 hl hml
theorem free_any : Calls Tryd.prog 26 #[.slice A row.length ca, .slice B m.length cb, .int .i64 least] w fun e w' => ∃ p, e = .returned (.int .i64 p) ∧ FreeP row m least p ∧ Below w.heap.size w w' := by
 have hrl := hr.len;have hmll := hm.len;refine qp Tryd.func26 rfl Tryd.ntmps26 rfl ?_;have HF : Per (No) w (fun _ => True) := Per.true_;have LW := erx (No) w;have XLW := grx (No) w;have E := erx (No) w;replace HF := HF.on E;replace LW := LW.step E XLW;replace E := erx (No) w;replace HF := HF.and (Per.u64A hr (fun _ h => h.elim));replace HF := HF.on E;replace LW := LW.step E XLW
 replace E := erx (No) w;replace HF := HF.and (Per.ints hm (fun _ h => h.elim));refine srx (anx rfl (cw_scope 4 (srx (mvx rfl (anx rfl (zp (cw_label (zj (yb ?_)))))))));replace HF := HF.on E;replace LW := LW.step E XLW;replace E := erx (No) w
 refine qn (ι := Int) (fun p => [(0, .slice A row.length ca), (1, .slice B m.length cb), (7, .int .i64 p)]) (fun p w' => Ext (No) w w' ∧ (least ≤ p ∧ ∀ q, least ≤ q → q < p → Held row m q)) (fun p => (least + (m.length : Int) + 1 - p).toNat) least ⟨rfl, rfl, rfl, trivial⟩ ⟨Ext.refl _ _, ⟨Int.le_refl _, fun q h1 h2 => absurd h1 (by omega)⟩⟩ ?_;rintro p w2 ⟨M1, ⟨hp0, hpl⟩⟩
 have XM1 := grx (No) w;replace E := E.trans M1;replace HF := HF.on E;replace LW := LW.step E XLW;replace E := erx (No) w2;have hple := held_le hp0 hpl;refine yb (zp (srx (mvx rfl (za rfl (qg Tryd.underlying28 rfl (mvx rfl (rnx (yb ?_))))))));replace HF := HF.on E;replace LW := LW.step E XLW;replace M1 := M1.step E XM1;replace E := erx (No) w2
 refine qn (ι := Nat) (fun i => [(0, .slice A row.length ca), (1, .slice B m.length cb), (7, .int .i64 p), (11, .slice B m.length cb), (12, .int .i64 ((m.length : Nat) : Int)), (13, .int .i64 ((i : Nat) : Int))]) (fun i w' => Ext (No) w2 w' ∧ (i ≤ m.length ∧ ∀ o : Nat, o < i → ¬ (m[o]? = some p ∧ jj row o = true))) (fun i => m.length - i) 0 ⟨rfl, rfl, rfl, rfl, rfl, rfl, trivial⟩ ⟨Ext.refl _ _, ⟨Nat.zero_le _, fun o h => absurd h (Nat.not_lt_zero _)⟩⟩ ?_
 rintro i w4 ⟨M3, ⟨him, hnone⟩⟩;have XM3 := grx (No) w2;replace E := E.trans M3;replace HF := HF.on E;replace LW := LW.step E XLW;replace M1 := M1.step E XM1;replace E := erx (No) w4;refine srx (za rfl (yu rfl rfl (rnx (zp (zw rfl (fun hi => ?_) (fun hi => ?_))))))
 ·
  have hi := of_decide_eq_true hi;have him2 : i < m.length := by omega
  obtain ⟨y, hy⟩ : ∃ y, m[i]? = some y := ⟨_, List.getElem?_eq_getElem him2⟩;obtain ⟨gm, om, hBm, hgm, hcm⟩ := ((HF.on E).here.2).cell hy;have hil : i / 64 < row.length := by omega
  obtain ⟨x0, hx0⟩ : ∃ x0, row[i / 64]? = some x0 := ⟨_, List.getElem?_eq_getElem hil⟩;have hx064 := hr.in_ x0 (List.mem_of_getElem? hx0);obtain ⟨gU, oU, hAU, hgU, hcU⟩ := ((HF.on E).here.1.2).cell hx0;have hbit : jj row i = x0.testBit (i % 64) := by
   unfold jj;rw [List.getD_eq_getElem?_getD, hx0]; rfl
  refine zt (zj (zp (yb (srx (mvx rfl (za rfl (zi (j := i) Tryd.underlying28 sz3 (congrArg (fun z ↦ some (Value.slice z m.length cb)) hBm) rfl rfl him2 (za rfl (zr Tryd.underlying3 rfl rfl hcm (avx rfl (anx rfl (srx (mvx rfl (mvx rfl (za rfl (qk rfl rfl (mvx rfl (yo 21 rfl (fun q1 => ?_) (fun q1 => ?_)))))))))))))))))))
  ·
   have q1 : y = p := by simpa using q1
   refine onx rfl (zh rfl (onx rfl (zh rfl (onx rfl (xm rfl rfl (by decide) (show IntKind.i64.wrap (((i : Nat) : Int).tdiv 64) = ((i / 64 : Nat) : Int) from by rw [Int.tdiv_eq_ediv_of_nonneg (by omega)]; exact zq (by omega)) (onx rfl (zi (j := i / 64) Tryd.underlying55 kq (congrArg (fun z ↦ some (Value.slice z row.length ca)) hAU) rfl rfl hil (onx rfl (zr Tryd.underlying35 rfl rfl hcU (onx rfl (zh rfl (onx rfl (xl rfl rfl (by decide) (show (((i : Nat) : Int).tmod 64) = ((i % 64 : Nat) : Int) from by rw [Int.tmod_eq_emod_of_nonneg (by omega)]; rfl) (onx rfl (ow_shr rfl rfl (by omega) (zov (by omega)) (onx rfl (ja rfl rfl (kb (y := 1) (by rw [Nat.shiftRight_eq_div_pow]; exact Nat.lt_of_le_of_lt (Nat.div_le_self _ _) hx064) (by decide)) (onx rfl (qk rfl rfl (za rfl (zn rfl rfl (rnx (zw rfl (fun q2 => ?_) (fun q2 => ?_))))))))))))))))))))))))
   ·
    rw [xg, ← hbit] at q2;have hheld : Held row m p := ⟨i, by rw [hy, q1], q2⟩;have hpl2 : ∀ q, least ≤ q → q < p + 1 → Held row m q := fun q h1 h2 => by
     rcases Int.lt_or_le q p with h3 | h3
     · exact hpl q h1 h3
     · obtain rfl : q = p := by omega
       exact hheld
    refine srx (mvx rfl (za rfl (yq rfl rfl (zq (by omega)) (anx rfl (qj (zck rfl (zm (zm (zck rfl (zm (yc ?_)))))))))));exact yp (p + 1) (by show (least + (m.length : Int) + 1 - (p + 1)).toNat < (least + (m.length : Int) + 1 - p).toNat; omega) ⟨rfl, rfl, rfl, trivial⟩ ⟨M1.step E XM1, ⟨by omega, hpl2⟩⟩
   ·
    rw [xg, ← hbit] at q2;have hno : ∀ o : Nat, o < i + 1 → ¬ (m[o]? = some p ∧ jj row o = true) := fun o ho h => by
     rcases Nat.lt_or_ge o i with h9 | h9
     · exact hnone o h9 h
     · obtain rfl : o = i := by omega
       rw [hy] at h;rw [q2] at h; cases h.2
    refine zt (zl (zj (zv (za rfl (yq rfl rfl (zq (by omega)) (mvx rfl (yt ?_)))))));exact yp (i + 1) (by show m.length - (i + 1) < m.length - i; omega) ⟨rfl, rfl, rfl, rfl, rfl, rfl, trivial⟩ ⟨M3.step E XM3, ⟨him2, hno⟩⟩
  ·
   have q1 : y ≠ p := by simpa using q1
   have hno : ∀ o : Nat, o < i + 1 → ¬ (m[o]? = some p ∧ jj row o = true) := fun o ho h => by
    rcases Nat.lt_or_ge o i with h9 | h9
    · exact hnone o h9 h
    · obtain rfl : o = i := by omega
      rw [hy] at h;exact q1 (Option.some.inj h.1)
   refine za rfl (zb rfl (za rfl (zb rfl (za rfl (zb rfl (za rfl (zb rfl (za rfl (zb rfl (za rfl (zb rfl (za rfl (zb rfl (za rfl (zb rfl (za rfl (zb rfl (za rfl (zb rfl (za rfl (ya rfl rfl (rnx (vf rfl (zt (zl (zj (zv (za rfl (yq rfl rfl (zq (by omega)) (mvx rfl (yt ?_)))))))))))))))))))))))))))))))
   exact yp (i + 1) (by show m.length - (i + 1) < m.length - i; omega) ⟨rfl, rfl, rfl, rfl, rfl, rfl, trivial⟩ ⟨M3.step E XM3, ⟨him2, hno⟩⟩
 ·
  have hi := of_decide_eq_false hi;refine qj (zm (zm (yc (zj (srx (mvx rfl (anx rfl (zy (ze (zc (ze (ew_scope_ret (zx (rs := [.tmp 6]) (vs := [_]) rfl ⟨rfl, trivial⟩ ?_)))))))))))))
  exact ⟨p, rfl, ⟨hp0, fun ⟨o, h1, h2⟩ => hnone o (by have := (List.getElem?_eq_some_iff.1 h1).1; omega) ⟨h1, h2⟩, hpl⟩, (LW.step E XLW).toBelow⟩
end
end Go.Proofs.YtppdgjlmeahimaaDoor
namespace Go.Proofs.YtppdgjlmeahimaaDoor
open Go.RowKit
set_option maxRecDepth 100000
attribute [local irreducible] OW RS
def oj (W : List (List Nat)) (r o : Nat) : List (List Nat) := W.set r (setR (W.getD r []) o)
theorem setW_len (W : List (List Nat)) (r o : Nat) : (oj W r o).length = W.length := by unfold oj; rw [List.length_set]
theorem setW_rows {W : List (List Nat)} {N n r o : Nat} (h : Rows64 W N n) (hr : r < N) : Rows64 (oj W r o) N n := h.set (zev (h.get hr))
theorem bitW_setW {W : List (List Nat)} {N n r o : Nat} (h : Rows64 W N n) (hr : r < N) (ho : o < 64 * n) (a b : Nat) : vb (oj W r o) a b = (vb W a b || decide (a = r ∧ b = o)) := by
 unfold oj;rw [zmx _ _ _ _ (by rw [h.1]; exact hr)];by_cases h1 : a = r
 · subst h1;rw [if_pos rfl, bitR_setR (h.get hr) ho];unfold vb;simp
 · rw [if_neg h1];simp [h1]
section
variable (w : World) (cap go R n base : Nat) (gs : List Nat) (W : List (List Nat)) (hb : Blk w cap 52 #[.slice (some ⟨go, 0, none⟩) R R]) (hR : RowsB 55 35 base w go R n gs W) (hWl : W.length = R) (hRn : R ≤ 64 * n) (hn : n ≤ 1024) (hcap : cap ∉ gs)
include hb hR hWl hRn hn hcap
theorem assign1_any (r o : Nat) (hr : r < R) (ho : o < R) : Calls Tryd.prog 25 #[.int .i64 ((r : Nat) : Int), .int .i64 ((o : Nat) : Int), .pointer (some ⟨cap, 0, none⟩)] w fun e w' => e = .returned (.bool true) ∧ Ext (fun k => k ∈ gs) w w' ∧ RowsB 55 35 base w' go R n gs (oj (oj W r o) o r) := by
 refine qp Tryd.func25 rfl Tryd.ntmps25 rfl ?_;obtain ⟨gw, hgw, hrow, hbw, h64, hcw⟩ := hR.get (i := r) (by omega);have hw : (W.getD r [])[o / 64]? = some ((W.getD r []).getD (o / 64) 0) := by
  rw [List.getD_eq_getElem?_getD (i := o / 64), List.getElem?_eq_getElem (by rw [h64.1]; omega)]; rfl
 have hw64 : (W.getD r []).getD (o / 64) 0 < 2 ^ 64 := h64.get;have hpw : 2 ^ (o % 64) < 2 ^ 64 := Nat.pow_lt_pow_right (by decide) (Nat.mod_lt _ (by decide));refine srx (anx rfl (zp (xv gh (oa 13 rfl ?_))));refine vg (No) Mut.none_ [] [] (xt [Fx.of (.slice (some ⟨go, 0, none⟩) R R),
  Fx.of (.int .i64 ((r : Nat) : Int)),
  Fx.of (.pointer (some ⟨go, 0 + r, none⟩)),
  Fx.of (.slice (some ⟨gw, 0, none⟩) n n),
  Fx.of (.int .i64 ((o : Nat) : Int)),
  Fx.of (.int .i64 ((o / 64 : Nat) : Int)),
  Fx.of (.pointer (some ⟨gw, 0 + o / 64, none⟩)),
  Fx.of (.int .u64 (((W.getD r []).getD (o / 64) 0 : Nat) : Int)),
  Fx.of (.int .i64 ((o : Nat) : Int)),
  Fx.of (.int .i64 ((o % 64 : Nat) : Int)),
  Fx.of (.int .u64 ((2 ^ (o % 64) : Nat) : Int)),
  Fx.of (.int .u64 (((W.getD r []).getD (o / 64) 0 ||| 2 ^ (o % 64) : Nat) : Int)),
  Fx.of (.pointer (some ⟨gw, 0 + o / 64, none⟩))]) rfl trivial (fun _ h => by cases h) ?_ ?_
 · refine ⟨?_, ?_, ?_, ?_, ?_, ?_, ?_, ?_, ?_, ?_, ?_, ?_, ?_, trivial⟩
   · intro vs X wq K;have LE := K.1;exact zr Tryd.underlying52 rfl rfl (((qx LE hb).cell 0).trans rfl) ⟨Below.refl _ _, Left.of rfl⟩
   · intro vs X wq K;exact zh rfl ⟨Below.refl _ _, Left.of rfl⟩
   · intro vs X wq K;obtain ⟨_, e0, k0⟩ := K.dep 0 rfl rfl rfl;refine zf 6 (.slice (some ⟨go, 0, none⟩) R R) rfl e0 ?_;obtain ⟨_, e1, k1⟩ := K.dep 1 rfl rfl rfl;refine zf 7 (.int .i64 ((r : Nat) : Int)) rfl e1 ?_;exact zi (j := r) Tryd.underlying52 sz55 rfl rfl rfl (by omega) ⟨Below.refl _ _, Left.of rfl⟩
   · intro vs X wq K;have LE := K.1;obtain ⟨_, e2, k2⟩ := K.dep 2 rfl rfl rfl;refine zf 8 (.pointer (some ⟨go, 0 + r, none⟩)) rfl e2 ?_;exact zr Tryd.underlying55 rfl rfl (by rw [Nat.zero_add]; exact ziq LE hcw) ⟨Below.refl _ _, Left.of rfl⟩
   · intro vs X wq K;exact zh rfl ⟨Below.refl _ _, Left.of rfl⟩
   · intro vs X wq K;obtain ⟨_, e4, k4⟩ := K.dep 4 rfl rfl rfl;refine zf 10 (.int .i64 ((o : Nat) : Int)) rfl e4 ?_;exact xm rfl rfl (by decide) (show IntKind.i64.wrap (((o : Nat) : Int).tdiv 64) = ((o / 64 : Nat) : Int) from by rw [Int.tdiv_eq_ediv_of_nonneg (by omega)]; exact zq (by omega)) ⟨Below.refl _ _, Left.of rfl⟩
   · intro vs X wq K;obtain ⟨_, e3, k3⟩ := K.dep 3 rfl rfl rfl;refine zf 9 (.slice (some ⟨gw, 0, none⟩) n n) rfl e3 ?_;obtain ⟨_, e5, k5⟩ := K.dep 5 rfl rfl rfl;refine zf 11 (.int .i64 ((o / 64 : Nat) : Int)) rfl e5 ?_;exact zi (j := o / 64) Tryd.underlying55 kq rfl rfl rfl (by omega) ⟨Below.refl _ _, Left.of rfl⟩
   · intro vs X wq K;have LE := K.1;obtain ⟨_, e6, k6⟩ := K.dep 6 rfl rfl rfl;refine zf 12 (.pointer (some ⟨gw, 0 + o / 64, none⟩)) rfl e6 ?_;exact zg Tryd.underlying35 rfl rfl (qx LE hbw) (jm hw) ⟨Below.refl _ _, Left.of rfl⟩
   · intro vs X wq K;exact zh rfl ⟨Below.refl _ _, Left.of rfl⟩
   · intro vs X wq K;obtain ⟨_, e8, k8⟩ := K.dep 8 rfl rfl rfl;refine zf 14 (.int .i64 ((o : Nat) : Int)) rfl e8 ?_;exact xl rfl rfl (by decide) (show (((o : Nat) : Int).tmod 64) = ((o % 64 : Nat) : Int) from by rw [Int.tmod_eq_emod_of_nonneg (by omega)]; rfl) ⟨Below.refl _ _, Left.of rfl⟩
   · intro vs X wq K;obtain ⟨_, e9, k9⟩ := K.dep 9 rfl rfl rfl;refine zf 15 (.int .i64 ((o % 64 : Nat) : Int)) rfl e9 ?_;exact ow_shl rfl rfl (by omega) (zpx (Nat.mod_lt _ (by decide))) ⟨Below.refl _ _, Left.of rfl⟩
   · intro vs X wq K;obtain ⟨_, e7, k7⟩ := K.dep 7 rfl rfl rfl;refine zf 13 (.int .u64 (((W.getD r []).getD (o / 64) 0 : Nat) : Int)) rfl e7 ?_;obtain ⟨_, e10, k10⟩ := K.dep 10 rfl rfl rfl;refine zf 16 (.int .u64 ((2 ^ (o % 64) : Nat) : Int)) rfl e10 ?_;exact ow_or rfl rfl (or_u64 hw64 hpw) ⟨Below.refl _ _, Left.of rfl⟩
   · intro vs X wq K;obtain ⟨_, e3, k3⟩ := K.dep 3 rfl rfl rfl;refine zf 9 (.slice (some ⟨gw, 0, none⟩) n n) rfl e3 ?_;obtain ⟨_, e5, k5⟩ := K.dep 5 rfl rfl rfl;refine zf 11 (.int .i64 ((o / 64 : Nat) : Int)) rfl e5 ?_;exact zi (j := o / 64) Tryd.underlying55 kq rfl rfl rfl (by omega) ⟨Below.refl _ _, Left.of rfl⟩
 intro vs w1 LE AO AL AF AA;have hbd : Below (w).heap.size (w) w1 := (((Ext.refl No (w)).drew).trans LE).toBelow;obtain ⟨_, e11, k11⟩ := AL.2.2.2.2.2.2.2.2.2.2.2.1;obtain ⟨_, e12, k12⟩ := AL.2.2.2.2.2.2.2.2.2.2.2.2.1
 refine vx (τ := [(0, _), (1, _), (2, _), (5, _), (17, .int .u64 (((W.getD r []).getD (o / 64) 0 ||| 2 ^ (o % 64) : Nat) : Int)), (18, .pointer (some ⟨gw, 0 + o / 64, none⟩))]) ⟨rfl, rfl, rfl, rfl, congrArg some e11, congrArg some e12, trivial⟩ ?_;clear AL AF AA AO;refine zhv (jz (by kernel_rfl) (fun _ _ d_ _ _ h => by cases d_ <;> exact h) ?_);have hbn := Ext.of_below hbd No
 have hbw2 := hbw.ext hbn (fun h => h.elim);refine vw (qy kq rfl rfl hbw2 rfl rfl (by rw [List.size_toArray, vp, h64.1]; omega) (show _ = (qe (setR (W.getD r []) o)).toArray from by unfold setR; rw [kc, Nat.zero_add, List.setIfInBounds_toArray]) ?_);rintro wA Bs Es;have hgm := List.mem_of_getElem? hgw
 have R2 := (hR.ext hbn (fun h => h.elim) (fun _ _ h => h.elim)).put hgw Bs (zev h64) Es;have C2 := (hb.ext hbn (fun h => h.elim)).ext Es (fun h => by have h := qh h; exact hcap (h ▸ hgm));have X2 := (hbn.mono (Y := fun k => k ∈ gs) (fun _ h _ => h.elim)).step Es (fun k hk => Or.inl (by have h := qh hk; exact h ▸ hgm));have R3 : RowsB 55 35 base wA go R n gs (oj W r o) := R2
 have C3 := C2;have X3 := X2;have hWl2 : (oj W r o).length = R := by rw [setW_len]; exact hWl
 obtain ⟨gw, hgw, hrow, hbw, h64, hcw⟩ := R3.get (i := o) (by omega);have hw : ((oj W r o).getD o [])[r / 64]? = some (((oj W r o).getD o []).getD (r / 64) 0) := by
  rw [List.getD_eq_getElem?_getD (i := r / 64), List.getElem?_eq_getElem (by rw [h64.1]; omega)]; rfl
 have hw64 : ((oj W r o).getD o []).getD (r / 64) 0 < 2 ^ 64 := h64.get;have hpw : 2 ^ (r % 64) < 2 ^ 64 := Nat.pow_lt_pow_right (by decide) (Nat.mod_lt _ (by decide));refine rnx (zp (xv gh (oa 13 rfl ?_)));refine vg (No) Mut.none_ [] [] (xt [Fx.of (.slice (some ⟨go, 0, none⟩) R R),
  Fx.of (.int .i64 ((o : Nat) : Int)),
  Fx.of (.pointer (some ⟨go, 0 + o, none⟩)),
  Fx.of (.slice (some ⟨gw, 0, none⟩) n n),
  Fx.of (.int .i64 ((r : Nat) : Int)),
  Fx.of (.int .i64 ((r / 64 : Nat) : Int)),
  Fx.of (.pointer (some ⟨gw, 0 + r / 64, none⟩)),
  Fx.of (.int .u64 ((((oj W r o).getD o []).getD (r / 64) 0 : Nat) : Int)),
  Fx.of (.int .i64 ((r : Nat) : Int)),
  Fx.of (.int .i64 ((r % 64 : Nat) : Int)),
  Fx.of (.int .u64 ((2 ^ (r % 64) : Nat) : Int)),
  Fx.of (.int .u64 ((((oj W r o).getD o []).getD (r / 64) 0 ||| 2 ^ (r % 64) : Nat) : Int)),
  Fx.of (.pointer (some ⟨gw, 0 + r / 64, none⟩))]) rfl trivial (fun _ h => by cases h) ?_ ?_
 · refine ⟨?_, ?_, ?_, ?_, ?_, ?_, ?_, ?_, ?_, ?_, ?_, ?_, ?_, trivial⟩
   · intro vs X wq K;have LE := K.1;exact zr Tryd.underlying52 rfl rfl (((qx LE C3).cell 0).trans rfl) ⟨Below.refl _ _, Left.of rfl⟩
   · intro vs X wq K;exact zh rfl ⟨Below.refl _ _, Left.of rfl⟩
   · intro vs X wq K;obtain ⟨_, e0, k0⟩ := K.dep 0 rfl rfl rfl;refine zf 19 (.slice (some ⟨go, 0, none⟩) R R) rfl e0 ?_;obtain ⟨_, e1, k1⟩ := K.dep 1 rfl rfl rfl;refine zf 20 (.int .i64 ((o : Nat) : Int)) rfl e1 ?_;exact zi (j := o) Tryd.underlying52 sz55 rfl rfl rfl (by omega) ⟨Below.refl _ _, Left.of rfl⟩
   · intro vs X wq K;have LE := K.1;obtain ⟨_, e2, k2⟩ := K.dep 2 rfl rfl rfl;refine zf 21 (.pointer (some ⟨go, 0 + o, none⟩)) rfl e2 ?_;exact zr Tryd.underlying55 rfl rfl (by rw [Nat.zero_add]; exact ziq LE hcw) ⟨Below.refl _ _, Left.of rfl⟩
   · intro vs X wq K;exact zh rfl ⟨Below.refl _ _, Left.of rfl⟩
   · intro vs X wq K;obtain ⟨_, e4, k4⟩ := K.dep 4 rfl rfl rfl;refine zf 23 (.int .i64 ((r : Nat) : Int)) rfl e4 ?_;exact xm rfl rfl (by decide) (show IntKind.i64.wrap (((r : Nat) : Int).tdiv 64) = ((r / 64 : Nat) : Int) from by rw [Int.tdiv_eq_ediv_of_nonneg (by omega)]; exact zq (by omega)) ⟨Below.refl _ _, Left.of rfl⟩
   · intro vs X wq K;obtain ⟨_, e3, k3⟩ := K.dep 3 rfl rfl rfl;refine zf 22 (.slice (some ⟨gw, 0, none⟩) n n) rfl e3 ?_;obtain ⟨_, e5, k5⟩ := K.dep 5 rfl rfl rfl;refine zf 24 (.int .i64 ((r / 64 : Nat) : Int)) rfl e5 ?_;exact zi (j := r / 64) Tryd.underlying55 kq rfl rfl rfl (by omega) ⟨Below.refl _ _, Left.of rfl⟩
   · intro vs X wq K;have LE := K.1;obtain ⟨_, e6, k6⟩ := K.dep 6 rfl rfl rfl;refine zf 25 (.pointer (some ⟨gw, 0 + r / 64, none⟩)) rfl e6 ?_;exact zg Tryd.underlying35 rfl rfl (qx LE hbw) (jm hw) ⟨Below.refl _ _, Left.of rfl⟩
   · intro vs X wq K;exact zh rfl ⟨Below.refl _ _, Left.of rfl⟩
   · intro vs X wq K;obtain ⟨_, e8, k8⟩ := K.dep 8 rfl rfl rfl;refine zf 27 (.int .i64 ((r : Nat) : Int)) rfl e8 ?_;exact xl rfl rfl (by decide) (show (((r : Nat) : Int).tmod 64) = ((r % 64 : Nat) : Int) from by rw [Int.tmod_eq_emod_of_nonneg (by omega)]; rfl) ⟨Below.refl _ _, Left.of rfl⟩
   · intro vs X wq K;obtain ⟨_, e9, k9⟩ := K.dep 9 rfl rfl rfl;refine zf 28 (.int .i64 ((r % 64 : Nat) : Int)) rfl e9 ?_;exact ow_shl rfl rfl (by omega) (zpx (Nat.mod_lt _ (by decide))) ⟨Below.refl _ _, Left.of rfl⟩
   · intro vs X wq K;obtain ⟨_, e7, k7⟩ := K.dep 7 rfl rfl rfl;refine zf 26 (.int .u64 ((((oj W r o).getD o []).getD (r / 64) 0 : Nat) : Int)) rfl e7 ?_;obtain ⟨_, e10, k10⟩ := K.dep 10 rfl rfl rfl;refine zf 29 (.int .u64 ((2 ^ (r % 64) : Nat) : Int)) rfl e10 ?_;exact ow_or rfl rfl (or_u64 hw64 hpw) ⟨Below.refl _ _, Left.of rfl⟩
   · intro vs X wq K;obtain ⟨_, e3, k3⟩ := K.dep 3 rfl rfl rfl;refine zf 22 (.slice (some ⟨gw, 0, none⟩) n n) rfl e3 ?_;obtain ⟨_, e5, k5⟩ := K.dep 5 rfl rfl rfl;refine zf 24 (.int .i64 ((r / 64 : Nat) : Int)) rfl e5 ?_;exact zi (j := r / 64) Tryd.underlying55 kq rfl rfl rfl (by omega) ⟨Below.refl _ _, Left.of rfl⟩
 intro vs w2 LE AO AL AF AA;have hbd : Below (wA).heap.size (wA) w2 := (((Ext.refl No (wA)).drew).trans LE).toBelow;obtain ⟨_, e11, k11⟩ := AL.2.2.2.2.2.2.2.2.2.2.2.1;obtain ⟨_, e12, k12⟩ := AL.2.2.2.2.2.2.2.2.2.2.2.2.1
 refine vx (τ := [(5, _), (30, .int .u64 ((((oj W r o).getD o []).getD (r / 64) 0 ||| 2 ^ (r % 64) : Nat) : Int)), (31, .pointer (some ⟨gw, 0 + r / 64, none⟩))]) ⟨rfl, congrArg some e11, congrArg some e12, trivial⟩ ?_;clear AL AF AA AO;refine zhv (jz (by kernel_rfl) (fun _ _ d_ _ _ h => by cases d_ <;> exact h) ?_);have hbn := Ext.of_below hbd No
 have hbw2 := hbw.ext hbn (fun h => h.elim);refine vw (qy kq rfl rfl hbw2 rfl rfl (by rw [List.size_toArray, vp, h64.1]; omega) (show _ = (qe (setR ((oj W r o).getD o []) r)).toArray from by unfold setR; rw [kc, Nat.zero_add, List.setIfInBounds_toArray]) ?_);rintro wB Bs Es;have hgm := List.mem_of_getElem? hgw
 have R2 := (R3.ext hbn (fun h => h.elim) (fun _ _ h => h.elim)).put hgw Bs (zev h64) Es;have C2 := (C3.ext hbn (fun h => h.elim)).ext Es (fun h => by have h := qh h; exact hcap (h ▸ hgm));have X2 := (hbn.mono (Y := fun k => k ∈ gs) (fun _ h _ => h.elim)).step Es (fun k hk => Or.inl (by have h := qh hk; exact h ▸ hgm))
 refine rnx (srx (anx rfl (zy (zx (rs := [.tmp 5]) (vs := [_]) rfl ⟨rfl, trivial⟩ ?_))));exact ⟨rfl, X3.step X2 (fun _ h => Or.inl h), R2⟩
end
end Go.Proofs.YtppdgjlmeahimaaDoor
namespace Go.Proofs.YtppdgjlmeahimaaDoor
structure Greedy (f : LFn) (W : List (List Nat)) (ms : List Int) : Prop where
 low : ∀ (r : Nat) (x : Int), ms[r]? = some x → (r : Int) < f.params → x = (r : Int)
 high : ∀ (r : Nat) (x : Int), ms[r]? = some x → f.params ≤ (r : Int) → ∃ least, (least = 0 ∨ least = f.params) ∧ (Liv f 0 r → least = f.params) ∧ FreeP (W.getD r []) (ms.take r) least x
theorem Greedy.le {f : LFn} {W : List (List Nat)} {ms : List Int} (h : Greedy f W ms) (hp : 0 ≤ f.params) {r : Nat} {x : Int} (hx : ms[r]? = some x) : 0 ≤ x ∧ x ≤ (r : Int) := by
 have hr := (List.getElem?_eq_some_iff.1 hx).1;rcases Int.lt_or_le (r : Int) f.params with h1 | h1
 · have := h.low r x hx h1; omega
 · obtain ⟨least, h2, _, h3, _, h4⟩ := h.high r x hx h1;have h0 : 0 ≤ x := by rcases h2 with h2 | h2 <;> omega
   refine ⟨h0, ?_⟩;have := many_in x.toNat 0 (ms.take r) fun i hi => by
    rw [Int.zero_add];rcases Int.lt_or_le (i : Int) least with h5 | h5
    · have h6 : least = f.params := by rcases h2 with h2 | h2 <;> omega
      have h7 : i < ms.length := by omega
      have h8 : ms[i]? = some ms[i] := List.getElem?_eq_getElem h7;have h9 := h.low i _ h8 (by omega);refine List.mem_of_getElem? (i := i) ?_;rw [List.getElem?_take, if_pos (by omega), h8, h9]
    · obtain ⟨o, h6, _⟩ := h4 (i : Int) h5 (by omega);exact List.mem_of_getElem? h6
   rw [List.length_take] at this;omega
theorem greedy_right {f : LFn} {W : List (List Nat)} {ms : List Int} {n : Int} (hs : qf f = true) (hW : ∀ a b, vb W a b = true ↔ (Met f a b ∨ Met f b a)) (h : Greedy f W ms) (hl : (ms.length : Int) = f.regs) (h1 : f.params ≤ n) (h2 : ∀ x ∈ ms, x < n) (h3 : n = f.params ∨ ∃ x ∈ ms, n = x + 1) : ko f ms n := by
 obtain ⟨hr0, hr1, hp0, hp1, hne⟩ := jn hs;have key : ∀ (r o : Nat) (x : Int), r < o → vb W o r = true → ms[r]? = some x → ms[o]? = some x → False := fun r o x hro hb hx hy => by
  rcases Int.lt_or_le (o : Int) f.params with h4 | h4
  · have h5 := h.low r x hx (by omega);have h6 := h.low o x hy h4;omega
  · obtain ⟨least, _, _, _, h5, _⟩ := h.high o x hy h4;exact h5 ⟨r, by rw [List.getElem?_take, if_pos hro]; exact hx, hb⟩
 refine ⟨hs, hl, h1, ?_, fun r x hx => ⟨(h.le hp0 hx).1, h2 x (List.mem_of_getElem? hx), fun h4 => h.low r x hx h4, fun h4 h5 h6 => ?_⟩, fun r o x y hM hx hy hxy => ?_⟩
 · rcases h3 with h3 | ⟨x, hx, h3⟩
   · omega
   · obtain ⟨r, hr, e⟩ := List.getElem_of_mem hx;have := h.le hp0 (List.getElem?_eq_getElem hr);omega
 · obtain ⟨least, _, h7, h8, _⟩ := h.high r x hx h4;have := h7 h6;omega
 · subst hxy;rcases Nat.lt_trichotomy r o with h4 | h4 | h4
   · exact key r o x h4 ((hW o r).2 (Or.inr hM)) hx hy
   · obtain ⟨_, _, _, _, _, _, _, _, _, h5, _⟩ := hM;exact h5 h4.symm
   · exact key o r x h4 ((hW r o).2 (Or.inl hM)) hy hx
theorem Greedy.nil {f : LFn} {W : List (List Nat)} : Greedy f W [] := ⟨fun r x h => by simp at h, fun r x h => by simp at h⟩
theorem Greedy.add {f : LFn} {W : List (List Nat)} {ms : List Int} {x : Int} (h : Greedy f W ms) (h1 : (ms.length : Int) < f.params → x = (ms.length : Int)) (h2 : f.params ≤ (ms.length : Int) → ∃ least, (least = 0 ∨ least = f.params) ∧ (Liv f 0 ms.length → least = f.params) ∧ FreeP (W.getD ms.length []) ms least x) : Greedy f W (ms ++ [x]) := by
 have key : ∀ (r : Nat) (y : Int), (ms ++ [x])[r]? = some y → (r < ms.length ∧ ms[r]? = some y ∧ (ms ++ [x]).take r = ms.take r) ∨ (r = ms.length ∧ y = x ∧ (ms ++ [x]).take r = ms) := fun r y hy => by
  rcases Nat.lt_or_ge r ms.length with h3 | h3
  · rw [List.getElem?_append_left h3] at hy;exact Or.inl ⟨h3, hy, List.take_append_of_le_length (by omega)⟩
  · rw [List.getElem?_append_right h3] at hy;have h4 := (List.getElem?_eq_some_iff.1 hy).1;simp at h4
    have h5 : r = ms.length := by omega
    subst h5;simp at hy
    exact Or.inr ⟨rfl, hy.symm, by simp⟩
 refine ⟨fun r y hy hr => ?_, fun r y hy hr => ?_⟩
 · rcases key r y hy with ⟨_, h4, _⟩ | ⟨rfl, rfl, _⟩
   · exact h.low r y h4 hr
   · exact h1 hr
 · rcases key r y hy with ⟨_, h4, h5⟩ | ⟨rfl, rfl, h5⟩
   · rw [h5]; exact h.high r y h4 hr
   · rw [h5]; exact h2 hr
end Go.Proofs.YtppdgjlmeahimaaDoor
namespace Go.Proofs.YtppdgjlmeahimaaDoor
open Go.RowKit
set_option maxRecDepth 100000
attribute [local irreducible] OW RS
def jx (ms : List Int) (R : Nat) : List Value := yl ms ++ List.replicate (R - ms.length) (.int .i64 0)
theorem zmq {ms : List Int} {R : Nat} (h : ms.length ≤ R) : (jx ms R).length = R := by
 unfold jx yl; simp; omega
theorem zmk {ms : List Int} {R : Nat} {x : Int} (h : ms.length < R) : (jx ms R).set ms.length (.int .i64 x) = jx (ms ++ [x]) R := by
 unfold jx yl;obtain ⟨k, hk⟩ : ∃ k, R - ms.length = k + 1 := ⟨R - ms.length - 1, by omega⟩;have h2 : R - (ms ++ [x]).length = k := by simp; omega
 rw [hk, h2, List.replicate_succ, List.set_append_right _ _ (by simp)];simp
theorem fillV_at {ms : List Int} {R i : Nat} {x : Int} (h : ms[i]? = some x) : (jx ms R)[i]? = some (.int .i64 x) := by
 unfold jx yl;rw [List.getElem?_append_left (by rw [List.length_map]; exact (List.getElem?_eq_some_iff.1 h).1), List.getElem?_map, h]; rfl
theorem fillV_full {ms : List Int} {R : Nat} (h : ms.length = R) : jx ms R = yl ms := by
 unfold jx; rw [h]; simp
theorem fillV_nil (R : Nat) : jx [] R = List.replicate R (.int .i64 0) := by unfold jx yl; simp
def idL (R : Nat) : List Int := (List.range R).map fun (i : Nat) => (i : Int)
theorem zbq (R : Nat) : (idL R).length = R := by simp [idL]
theorem idL_at {R r : Nat} {x : Int} (h : (idL R)[r]? = some x) : x = (r : Int) ∧ r < R := by
 unfold idL at h;rw [List.getElem?_map] at h;cases hr : (List.range R)[r]? with
 | none => rw [hr] at h; cases h
 | some y =>
  rw [hr] at h;obtain ⟨h1, h2⟩ := List.getElem?_eq_some_iff.1 hr;simp at h1 h2
  subst h2;exact ⟨(Option.some.inj h).symm, h1⟩
theorem idL_succ (i : Nat) : idL (i + 1) = idL i ++ [(i : Int)] := by unfold idL; rw [List.range_succ, List.map_append]; rfl
theorem ident_right {f : LFn} (hs : qf f = true) : ko f (idL f.regs.toNat) f.regs := by
 obtain ⟨hr0, hr1, hp0, hp1, hne⟩ := jn hs;refine ⟨hs, by rw [zbq]; omega, hp1, Int.le_refl _, fun r x hx => ?_, fun r o x y hM hx hy hxy => ?_⟩
 · obtain ⟨rfl, h1⟩ := idL_at hx;exact ⟨by omega, by omega, fun _ => rfl, fun h2 h3 => absurd h3 (by omega)⟩
 · obtain ⟨_, _, _, _, _, _, _, _, _, h5, _⟩ := hM;have h6 := (idL_at hx).1;have h7 := (idL_at hy).1;exact h5 (by omega)
def AJ (g10 go R n base : Nat) (gs : List Nat) (D : Nat → Nat → Prop) (w : World) : Prop := Blk w g10 52 #[.slice (some ⟨go, 0, none⟩) R R] ∧ ∃ Q, RowsB 55 35 base w go R n gs Q ∧ Q.length = R ∧ ∀ a b, vb Q a b = true ↔ (D a b ∨ D b a)
theorem assign_each {g10 go R n base : Nat} {gs : List Nat} {w0 : World} (hRn : R ≤ 64 * n) (hn : n ≤ 1024) (hcap : g10 ∉ gs) (h1 : g10 < w0.heap.size) (h2 : go < w0.heap.size) (h3 : ∀ g ∈ gs, g < w0.heap.size) : EachOk 25 #[.pointer (some ⟨g10, 0, none⟩)] R (fun k => k ∈ gs) (AJ g10 go R n base gs) (fun _ _ => False) w0 where
 keep := fun D w w' Y h e hY => by
  obtain ⟨hb, Q, hQ, hl, hbit⟩ := h;exact ⟨hb.ext e (fun h => by have := hY _ h; omega), Q, hQ.ext e (fun h => by have := hY _ h; omega) (fun g hg h => by have := hY _ h; have := h3 g hg; omega), hl, hbit⟩
 call := fun D w r o h _ hr ho => by
  obtain ⟨hb, Q, hQ, hl, hbit⟩ := h;rw [show (#[.int .i64 ((r : Nat) : Int), .int .i64 ((o : Nat) : Int)] ++ #[.pointer (some ⟨g10, 0, none⟩)] : Array Value) = #[.int .i64 ((r : Nat) : Int), .int .i64 ((o : Nat) : Int), .pointer (some ⟨g10, 0, none⟩)] from rfl];have hR64 := zfz hQ hl
  refine (assign1_any w g10 go R n base gs Q hb hQ hl hRn hn hcap r o hr ho).mono fun e w' h => ⟨true, h.1, h.2.1, fun _ => ⟨hb.ext h.2.1 hcap, _, h.2.2, by rw [setW_len, setW_len]; exact hl, fun a b => ?_⟩, fun h => by cases h⟩;rw [bitW_setW (setW_rows hR64 hr) ho (by omega), bitW_setW hR64 hr (by omega), Bool.or_eq_true, Bool.or_eq_true, hbit, decide_eq_true_iff, decide_eq_true_iff]
  constructor
  · rintro (((h | h) | ⟨rfl, rfl⟩) | ⟨rfl, rfl⟩)
    · exact Or.inl (Or.inl h)
    · exact Or.inr (Or.inl h)
    · exact Or.inl (Or.inr ⟨rfl, rfl⟩)
    · exact Or.inr (Or.inr ⟨rfl, rfl⟩)
  · rintro ((h | ⟨rfl, rfl⟩) | (h | ⟨rfl, rfl⟩))
    · exact Or.inl (Or.inl (Or.inl h))
    · exact Or.inl (Or.inr ⟨rfl, rfl⟩)
    · exact Or.inl (Or.inl (Or.inr h))
    · exact Or.inr ⟨rfl, rfl⟩
theorem meets_assign {w : World} {p : Pl} {f : LFn} {n0 b0 cl g10 go R n base : Nat} {AL : Option Addr} {W : List (List Nat)} {gs : List Nat} (hF : FnA n0 w p f) (hs :     qf f = true) (hD : DbT w) (hW : Rows64 W f.ins.length (    jh f)) (hL : ∀ a r,   vb W a r = true ↔ Liv f a r) (hA : RowsW b0 w AL W) (hb0 : n0 ≤ b0) (hdb : 0 < b0)
 (hR : f.regs.toNat = R) (hRn : R ≤ 64 * n) (hn : n ≤ 1024) (hcap : g10 ∉ gs) (hgs : ∀ g ∈ gs, b0 ≤ g) (h4 : Blk w g10 52 #[.slice (some ⟨go, 0, none⟩) R R]) (hQ : RowsB 55 35 base w go R n gs (List.replicate R (List.replicate n 0))) : Calls Tryd.prog 20 #[fnV p f, .slice AL f.ins.length cl, .func (.func 25) #[] #[.pointer (some ⟨g10, 0, none⟩)]] w fun e w' => e = .returned (.bool true) ∧ Ext (fun k => k ∈ gs) w w' ∧ AJ g10 go R n base gs (Met f) w' :=
 (meets_any w p f n0 b0 cl AL W hF hs hD hW hL hA hb0 hdb _ _ (fun k => k ∈ gs) (AJ g10 go R n base gs) (fun _ _ => False) (fun k hk => ⟨hgs k hk, hQ.lt hk⟩) (by rw [hR]; exact assign_each hRn hn hcap h4.lt hQ.out.lt (fun g hg => hQ.lt hg)) en25 ⟨h4, _, hQ, by rw [List.length_replicate], fun a b => by
  constructor
  · intro h;unfold   vb at h;rw [List.getD_eq_getElem?_getD, List.getElem?_replicate] at h;split at h
    · rw [Option.getD_some, bitR_zero] at h; cases h
    · simp [  jj] at h
  · intro h; rcases h with h | h <;> exact h.elim⟩).mono fun e w' h => by
  obtain ⟨hE, h⟩ := h;rcases h with ⟨he, D, hD, hJ⟩ | ⟨_, _, _, _, h⟩
  · have e1 : D = Met f := funext fun a => funext fun b => propext (hD a b);rw [e1] at hJ;exact ⟨he, hE, hJ⟩
  · exact h.elim
theorem u64_blk {w : World} {g n N : Nat} {x : List Nat} (hb : Blk w g 35 (qe x).toArray) (h : Row64 x n) (hn : n ≤ 1024) (hN : g < N) : U64A N w (some ⟨g, 0, none⟩) x :=
 ⟨by rw [h.1]; omega, h.2, fun _ => ⟨g, 0, rfl, hN, fun j y hj => by
  show w.cell? ⟨g, 0 + j * 1, none⟩ = _
  rw [hb.cell, List.getElem?_toArray, Nat.zero_add, Nat.mul_one];exact zkq hj⟩⟩
theorem ints_fill {w : World} {g R N : Nat} {ms : List Int} (hb : Blk w g 3 (jx ms R).toArray) (hl : 8 * ms.length ≤ 140737488355000) (hi : ∀ x ∈ ms, I64 x) (hN : g < N) : IntsA N w (some ⟨g, 0, none⟩) ms :=
 ⟨hl, hi, fun _ => ⟨g, 0, rfl, hN, fun j y hj => by
  show w.cell? ⟨g, 0 + j * 1, none⟩ = _
  rw [hb.cell, List.getElem?_toArray, Nat.zero_add, Nat.mul_one];exact fillV_at hj⟩⟩
def RetAssign (f : LFn) (w : World) : Ending → World → Prop := fun e w' => Below w.heap.size w w' ∧ (qf f = false → e = .returned (.tuple #[.slice none 0 0, .int .i64 0, .int .i64 3])) ∧ (qf f = true → ∃ gm ms n, e = .returned (.tuple #[.slice (some ⟨gm, 0, none⟩) ms.length ms.length, .int .i64 n, .int .i64 0]) ∧ w.heap.size ≤ gm ∧ Blk w' gm 3 (yl ms).toArray ∧ ko f ms n)
section
variable (w : World) (p : Pl) (f : LFn) (n0 : Nat) (hF : FnA n0 w p f) (hD : DbT w)
include hF hD
theorem assign_any : Calls Tryd.prog 11 #[fnV p f] w (RetAssign f w) := by
 have hrl := hF.rgs.len;have hil := hF.ins.len;have hn := hF.size;refine qp Tryd.func11 rfl Tryd.ntmps11 rfl (srx (za rfl (vq rfl ?_)));rintro g1 wA B1 E1 G1;have hFA : FnA n0 wA p f := hF.low (X := No) ⟨E1, fun _ h => h.elim⟩;refine avx rfl (avx rfl (anx rfl (srx (za rfl (qa Tryd.underlying27 rfl oh rfl B1 rfl ?_)))));by_cases hs : qf f = true
 ·
  obtain ⟨hr0, hr1, hp0, hp1, hne⟩ := jn hs;obtain ⟨R, hRr⟩ : ∃ R : Nat, f.regs = (R : Int) := ⟨f.regs.toNat, by omega⟩;refine za rfl (yj en19 rfl ((live_yes hFA hs).mono ?_));rintro e w1 ⟨AL, cL, W, rfl, hW, hL, hA, hb⟩;refine ⟨_, rfl, ?_⟩;have E2 := Ext.of_below hb No;obtain ⟨b0, hb0⟩ : ∃ b0, b0 = w1.heap.size := ⟨_, rfl⟩;rw [← hb0] at hA;have B2 := B1.ext E2 (fun h => h.elim)
  refine mvx rfl (za rfl (qm rfl rfl (za rfl (qm rfl rfl (avx rfl (anx rfl (zp (srx (mvx rfl (za rfl (qr rfl rfl (rnx (vf rfl (zt (zj (srx (za rfl (zd Tryd.underlying27 rfl sz3 (by decide) rfl (za rfl (zg Tryd.underlying3 rfl rfl B2 rfl (za rfl (zgz (n := R) Tryd.underlying28 inf3 rfl rfl rfl hRr hRr (by omega) (by omega) ?_))))))))))))))))))))))
  rintro gm wB Bm E3 Gm;have B3 := B2.ext E3 (fun h => h.elim);refine anx rfl (zp (srx (za rfl (zd Tryd.underlying27 rfl sz3 (by decide) rfl (za rfl (zg Tryd.underlying3 rfl rfl B3 rfl (za rfl (xn rfl rfl (rnx (zw rfl (fun h3 => ?_) (fun h3 => ?_)))))))))))
  ·
   have h3 := of_decide_eq_true h3;have hz0 : Blk wB gm 3 (jx (idL 0) R).toArray := by rw [show idL 0 = [] from rfl, fillV_nil]; exact Bm
   have hg1m : g1 ≠ gm := by have := B2.lt; omega
   refine zp (srx (mvx rfl (za rfl (qg Tryd.underlying28 rfl (mvx rfl (rnx (yb (qn (ι := Nat) (fun i => [(1, .pointer (some ⟨g1, 0, none⟩)), (7, .slice (some ⟨gm, 0, none⟩) R R), (30, .int .i64 ((R : Nat) : Int)), (31, .int .i64 ((i : Nat) : Int))]) (fun i w' => Ext (Mut [some gm]) wB w' ∧ Blk w' gm 3 (jx (idL i) R).toArray ∧ i ≤ R) (fun i => R - i) 0 ⟨rfl, rfl, rfl, rfl, trivial⟩ (⟨Ext.refl _ _, hz0, Nat.zero_le _⟩) ?_))))))))
   rintro i w3 ⟨hEi, hBi, hiR⟩;refine srx (za rfl (yu rfl rfl (rnx (zp (zw rfl (fun hi => ?_) (fun hi => ?_))))))
   ·
    have hi := of_decide_eq_true hi;have hiR2 : i < R := by omega
    refine zt (zj (zp (yb (srx (mvx rfl (anx rfl (zv (mvx rfl (mvx rfl (mvx rfl (za rfl (zi (j := i) Tryd.underlying28 sz3 rfl rfl rfl hiR2 (vw (qy sz3 rfl rfl hBi rfl rfl (by rw [List.size_toArray, zmq (by rw [zbq]; omega)]; omega) (show _ = (jx (idL (i + 1)) R).toArray from by rw [idL_succ, ← zmk (by rw [zbq]; exact hiR2), zbq, Nat.zero_add, List.setIfInBounds_toArray]) ?_))))))))))))))
    rintro wC Bs Es;refine yt (zl (zj (zv (za rfl (yq rfl rfl (zq (by omega)) (mvx rfl (yt ?_)))))));exact yp (i + 1) (by show R - (i + 1) < R - i; omega) ⟨rfl, rfl, rfl, rfl, trivial⟩ (⟨hEi.step Es (fun i h => Or.inl h), Bs, hiR2⟩)
   ·
    have hi := of_decide_eq_false hi;have hie : i = R := by omega
    rw [hie, fillV_full (zbq R)] at hBi;have B4 := B3.ext hEi (fun h => hg1m (qh h));refine qj (zm (zm (yc (zj (zp (xv gh (oa 5 rfl ?_)))))));refine vg (No) Mut.none_ [] [] (xt [Fx.of (.slice (some ⟨gm, 0, none⟩) R R),
     Fx.of (.pointer (some ⟨g1, 2, none⟩)),
     Fx.of (.int .i64 f.regs),
     Fx.of (.slice (some ⟨gm, 0, none⟩) R R),
     Fx.of (.int .i64 f.regs)]) rfl trivial (fun _ h => by cases h) ?_ ?_
    · refine ⟨?_, ?_, ?_, ?_, ?_, trivial⟩
      · intro vs X wq K;exact zh rfl ⟨Below.refl _ _, Left.of rfl⟩
      · intro vs X wq K;exact zd Tryd.underlying27 rfl sz3 (by decide) rfl ⟨Below.refl _ _, Left.of rfl⟩
      · intro vs X wq K;have LE := K.1;obtain ⟨_, e1, k1⟩ := K.dep 1 rfl rfl rfl;refine zf 40 (.pointer (some ⟨g1, 2, none⟩)) rfl e1 ?_;exact zg Tryd.underlying3 rfl rfl (qx LE B4) rfl ⟨Below.refl _ _, Left.of rfl⟩
      · intro vs X wq K;obtain ⟨_, e0, k0⟩ := K.dep 0 rfl rfl rfl;refine zf 39 (.slice (some ⟨gm, 0, none⟩) R R) rfl e0 ?_;exact ym rfl ⟨Below.refl _ _, Left.of rfl⟩
      · intro vs X wq K;obtain ⟨_, e2, k2⟩ := K.dep 2 rfl rfl rfl;refine zf 41 (.int .i64 f.regs) rfl e2 ?_;exact ym rfl ⟨Below.refl _ _, Left.of rfl⟩
    intro vs w4 LE AO AL AF AA;have hbd : Below (w3).heap.size (w3) w4 := (((Ext.refl No (w3)).drew).trans LE).toBelow;obtain ⟨_, e3, k3⟩ := AL.2.2.2.1;obtain ⟨_, e4, k4⟩ := AL.2.2.2.2.1;refine vx (τ := [(1, _), (2, .slice (some ⟨gm, 0, none⟩) R R), (3, .int .i64 f.regs), (7, _)]) ⟨rfl, congrArg some e3, congrArg some e4, rfl, trivial⟩ ?_;clear AL AF AA AO
    refine zhv (jz (by kernel_rfl) (fun _ _ d_ _ _ h => by cases d_ <;> exact h) ?_);have hb5 := hBi.ext (Ext.of_below hbd No) (fun h => h.elim);have hlo : Below w.heap.size w w4 := by
     have h1 := vv ((E1.trans E2).trans E3).toBelow hEi ((E1.trans E2).trans E3).size (fun k hk => by have := qh hk; have := E1.size; have := E2.size; omega);exact h1.trans (hbd.mono h1.size)
    refine anx rfl (zy (zc (zx (rs := [.tmp 2, .tmp 3, .tmp 4]) (vs := [_, _, _]) rfl ⟨rfl, rfl, rfl, trivial⟩ ?_)));exact ⟨hlo, fun h => (by rw [hs] at h; cases h), fun _ => ⟨gm, idL R, f.regs, by rw [zbq]; rfl, by have := E1.size; have := E2.size; omega, hb5, by have h := ident_right hs; rw [hRr] at h ⊢; exact h⟩⟩
  ·
   have h3 := of_decide_eq_false h3;obtain ⟨n, hwn⟩ : ∃ n, n = jh f := ⟨_, rfl⟩;have hnr : (f.regs + 63).tdiv 64 = (n : Int) := by rw [hwn]; unfold jh; rw [Int.tdiv_eq_ediv_of_nonneg (by omega)]; omega
   have hn1 : n ≤ 1024 := by rw [hwn]; unfold jh; omega
   have hRn : R ≤ 64 * n := by rw [hwn]; unfold jh; omega
   have hR3 : R ≤ 3000 := by omega
   refine zt (zj (srx (za rfl (zd Tryd.underlying27 rfl sz3 (by decide) rfl (za rfl (zg Tryd.underlying3 rfl rfl B3 rfl (za rfl (yq rfl rfl (zq (by omega)) (za rfl (xm rfl rfl (by decide) (show IntKind.i64.wrap ((f.regs + 63).tdiv 64) = ((n : Nat) : Int) from by rw [hnr]; exact zq (by omega)) (anx rfl (srx (za rfl (zd Tryd.underlying27 rfl sz3 (by decide) rfl (za rfl (zg Tryd.underlying3 rfl rfl B3 rfl (za rfl (zgz (n := R) Tryd.underlying52 inf55 rfl rfl rfl hRr hRr (by omega) (by omega) ?_))))))))))))))))))
   rintro go wC Bo E4 Go;refine za rfl (qi zr52 ?_);rintro g10 wD B10 E5 G10;refine vw (qw sz52 rfl rfl B10 rfl rfl (Nat.le_of_ble_eq_true rfl) ?_);rintro wE B10b E6;have hgo := Bo.lt;have hgoD : go < g10 := by omega
   have hx10 : ∀ k, k ≠ g10 → ¬ Mut [some g10] k := fun k hk hx => hk (qh hx);have hs1 := E1.size;have hs2 := E2.size;have hs3 := E3.size;have hs4 := E4.size;have hs5 := E5.size;have hs6 := E6.size;have hgm1 := Bm.lt;have R0 : RowsB 55 35 w.heap.size wE go R n [] [] := RowsB.nil ((Bo.ext E5 (fun h => h.elim)).ext E6 (hx10 _ (by omega))) (by omega)
   refine rnx (zp (srx (za rfl (zr Tryd.underlying52 rfl rfl ((B10b.cell 0).trans rfl) (za rfl (qg Tryd.underlying52 rfl (mvx rfl (rnx (yb (qn (ι := Nat × List Nat × List (List Nat)) (fun (i, gs, Q) => [(1, .pointer (some ⟨g1, 0, none⟩)), (5, .slice AL f.ins.length cL), (7, .slice (some ⟨gm, 0, none⟩) R R), (9, .int .i64 ((n : Nat) : Int)), (10, .pointer (some ⟨g10, 0, none⟩)), (50, .int .i64 ((R : Nat) : Int)), (51, .int .i64 ((i : Nat) : Int))]) (fun (i, gs, Q) w' => Ext (Mut [some go]) wE w' ∧ RowsB 55 35 w.heap.size w' go R n gs Q ∧ Q = List.replicate i (List.replicate n 0) ∧ ∀ g ∈ gs, g10 < g) (fun (i, _, _) => R - i) (0, [], []) ⟨rfl, rfl, rfl, rfl, rfl, rfl, rfl, trivial⟩ (⟨Ext.refl _ _, R0, rfl, fun g h => by cases h⟩) ?_))))))))))
   rintro ⟨i, gs, Q⟩ w6 ⟨hEi, hRB, hQ, hgs⟩;have hQl : Q.length = i := by rw [hQ, List.length_replicate]
   refine srx (za rfl (yu rfl rfl (rnx (zp (zw rfl (fun hi => ?_) (fun hi => ?_))))))
   ·
    have hi := of_decide_eq_true hi;have hiR : i < R := by omega
    have B10c := B10b.ext hEi (fun h => by have := qh h; omega);refine zt (zj (zp (yb (srx (mvx rfl (anx rfl ?_))))));obtain ⟨wF, hwF⟩ : ∃ wF, wF = w6 := ⟨_, rfl⟩;refine xv gh (oa 5 rfl ?_);refine vg (No) Mut.none_ [] [] (xt [Fx.of (.slice (some ⟨go, 0, none⟩) R R),
     Fx.of (.int .i64 ((i : Nat) : Int)),
     Fx.of (.int .i64 ((n : Nat) : Int)),
     ⟨Nat, fun gr => .slice (some ⟨gr, 0, none⟩) n n, fun gr b => (Blk b gr 35 (List.replicate n (.int .u64 0)).toArray ∧ wF.heap.size ≤ gr)⟩,
     Fx.of (.pointer (some ⟨go, 0 + i, none⟩))]) rfl trivial (fun _ h => by cases h) ?_ ?_
    · refine ⟨?_, ?_, ?_, ?_, ?_, trivial⟩
      · intro vs X wq K;have LE := K.1;exact zr Tryd.underlying52 rfl rfl (((qx LE B10c).cell 0).trans rfl) ⟨Below.refl _ _, Left.of rfl⟩
      · intro vs X wq K;exact zh rfl ⟨Below.refl _ _, Left.of rfl⟩
      · intro vs X wq K;exact zh rfl ⟨Below.refl _ _, Left.of rfl⟩
      · intro vs X wq K;have LE := K.1;have XN := K.2.1;obtain ⟨_, e2, k2⟩ := K.dep 2 rfl rfl rfl;refine zf 56 (.int .i64 ((n : Nat) : Int)) rfl e2 (ow_makeW (n := n) Tryd.underlying55 inf35 rfl rfl rfl rfl rfl (by omega) (by omega) ?_);intro gr w5 Bs hb Gs
        exact ⟨hb, ⟨gr, rfl, (Per.blk Bs (fun hx => by have := XN gr hx; omega)).and (fun _ _ => by rw [hwF]; exact Nat.le_trans LE.size Gs)⟩⟩
      · intro vs X wq K;obtain ⟨_, e0, k0⟩ := K.dep 0 rfl rfl rfl;refine zf 54 (.slice (some ⟨go, 0, none⟩) R R) rfl e0 ?_;obtain ⟨_, e1, k1⟩ := K.dep 1 rfl rfl rfl;refine zf 55 (.int .i64 ((i : Nat) : Int)) rfl e1 ?_;exact zi (j := i) Tryd.underlying52 sz55 rfl rfl rfl hiR ⟨Below.refl _ _, Left.of rfl⟩
    intro vs w7 LE AO AL AF AA;have hbd : Below (w6).heap.size (w6) w7 := (((Ext.refl No (w6)).drew).trans LE).toBelow;obtain ⟨gr, e3, k3⟩ := AL.2.2.2.1;obtain ⟨_, e4, k4⟩ := AL.2.2.2.2.1;have Wc3 := k3.here
    refine vx (τ := [(1, _), (5, _), (7, _), (9, _), (10, _), (50, _), (51, _), (57, .slice (some ⟨gr, 0, none⟩) n n), (58, .pointer (some ⟨go, 0 + i, none⟩))]) ⟨rfl, rfl, rfl, rfl, rfl, rfl, rfl, congrArg some e3, congrArg some e4, trivial⟩ ?_;clear AL AF AA AO;refine zhv (jz (by kernel_rfl) (fun _ _ d_ _ _ h => by cases d_ <;> exact h) ?_);change Nat at gr
    have hbn := Ext.of_below hbd No;have hgl : gs.length = i := by rw [hRB.len, hQl]
    have hout := hRB.out.ext hbn (fun h => h.elim);refine vw (qy sz55 rfl rfl hout rfl rfl (by rw [List.size_toArray, outV_len (by omega)]; omega) (show _ = ((outV gs n R).set Q.length (rwV n gr)).toArray from by rw [hQl, Nat.zero_add, List.setIfInBounds_toArray]; rfl) ?_);rintro wG B9 E9;have hszi : w.heap.size ≤ wE.heap.size := by omega
    have hEis := hEi.size;have R2 := hRB.add (by rw [hQl]; exact hiR) Wc3.1 hbn (by rw [← hwF]; exact Wc3.2) (by omega) B9 E9;have hQ2 : Q ++ [List.replicate n 0] = List.replicate (i + 1) (List.replicate n 0) := by rw [hQ, List.replicate_succ']
    have hgs2 : ∀ g ∈ gs ++ [gr], g10 < g := fun g hg => by
     rcases List.mem_append.1 hg with hg | hg
     · exact hgs g hg
     · obtain rfl := List.mem_singleton.1 hg;have h1 := B10c.lt;have h2 := Wc3.2;rw [hwF] at h2;omega
    refine yt (zl (zj (zv (za rfl (yq rfl rfl (zq (by omega)) (mvx rfl (yt ?_)))))));exact yp (i + 1, gs ++ [gr], Q ++ [List.replicate n 0]) (by show R - (i + 1) < R - i; omega) ⟨rfl, rfl, rfl, rfl, rfl, rfl, rfl, trivial⟩ (⟨(hEi.step hbn (fun _ h => h.elim)).step E9 (fun i h => Or.inl h), R2, hQ2, hgs2⟩)
   ·
    have hi := of_decide_eq_false hi;have hie : i = R := by have := hRB.le; omega
    have hEis := hEi.size;have B1z := ((B3.ext E4 (fun h => h.elim)).ext E5 (fun h => h.elim)).ext E6 (hx10 _ (by have := B3.lt; omega));have B1y := B1z.ext hEi (fun h => by have := qh h; have := B3.lt; omega);have B10z := B10b.ext hEi (fun h => by have := qh h; omega)
    have hEb := ((((E3.mono (Y := fun k => b0 ≤ k) (fun _ h _ => h.elim)).step E4 (fun _ h => h.elim)).step E5 (fun _ h => h.elim)).step E6 (fun k hk => Or.inl (show b0 ≤ k by have := qh hk; omega))).step hEi (fun k hk => Or.inl (show b0 ≤ k by have := qh hk; omega));have hAz : RowsW b0 w6 AL W := hA.low (X := fun k => b0 ≤ k) ⟨hEb, fun _ h => h⟩
    have hEw : Ext (fun k => w.heap.size ≤ k) w w6 := ((E1.mono (Y := fun k => w.heap.size ≤ k) (fun _ h _ => h.elim)).step E2 (fun _ h => h.elim)).step hEb (fun k hk => Or.inl (show w.heap.size ≤ k by have : b0 ≤ k := hk; omega));have hFz : FnA n0 w6 p f := hF.low (X := fun k => w.heap.size ≤ k) ⟨hEw, fun k h => Nat.le_trans hn h⟩
    have hDz : DbT w6 := fun j y hy => Low.cell (n := w.heap.size) (X := fun k => w.heap.size ≤ k) ⟨hEw, fun _ h => h⟩ (World.block_lt_of_cell? w _ (hD j y hy)) (hD j y hy);have hdbw : 0 < w.heap.size := World.block_lt_of_cell? w _ (hD 0 0 rfl)
    refine qj (zm (zm (yc (zj (srx (za rfl (qa Tryd.underlying27 rfl oh rfl B1y rfl (mvx rfl (za rfl (oq (xs := [.tmp 10]) rfl (za rfl (yj en20 rfl ((meets_assign hFz hs hDz hW hL hAz (by omega) (by omega) (by omega) hRn hn1 (fun h => by have := hgs _ h; omega) (fun g hg => by have := hgs g hg; omega) B10z (by rw [hQ, hie] at hRB; exact hRB)).mono ?_)))))))))))))
    rintro e w8 ⟨rfl, hXm, hJm⟩;refine ⟨_, rfl, ?_⟩;obtain ⟨C10, Q2, hQB, hQl2, hbit⟩ := hJm;have hEz : Ext (fun k => w.heap.size ≤ k) w w8 := hEw.step hXm (fun k hk => Or.inl (show w.heap.size ≤ k by have := hgs k hk; omega));have B1f := B1y.ext hXm (fun h => by have := hgs _ h; have := B3.lt; omega)
    have Bmz := (((Bm.ext E4 (fun h => h.elim)).ext E5 (fun h => h.elim)).ext E6 (hx10 _ (by omega))).ext hEi (fun h => by have := qh h; omega);have Bmf := Bmz.ext hXm (fun h => by have := hgs _ h; omega);have hAf : RowsW b0 w8 AL W := hAz.low (X := fun k => k ∈ gs) ⟨hXm, fun k hk => by have := hgs k hk; omega⟩;obtain ⟨wZ, hwZ⟩ : ∃ wZ, wZ = w8 := ⟨_, rfl⟩
    rw [← hwZ] at hEz B1f Bmf hAf C10 hQB;have hXs := hXm.size;rw [← hwZ] at hXs;have hz0 : Blk wZ gm 3 (jx [] R).toArray := by rw [fillV_nil]; exact Bmf
    refine rnx (srx (za rfl (zd Tryd.underlying27 rfl sz3 (by decide) rfl (za rfl (zg Tryd.underlying3 rfl rfl (hwZ ▸ B1f) rfl (anx rfl (zp (srx (za rfl (zd Tryd.underlying27 rfl sz3 (by decide) rfl (za rfl (zg Tryd.underlying3 rfl rfl (hwZ ▸ B1f) rfl (mvx rfl (rnx (yb (yx 67 (.int .i64 ((R : Nat) : Int)) rfl ((by rw [hRr] : (.int .i64 f.regs : Value) = _)) (qn (ι := List Int × Int) (fun (ms, nn) => [(1, .pointer (some ⟨g1, 0, none⟩)), (5, .slice AL f.ins.length cL), (7, .slice (some ⟨gm, 0, none⟩) R R), (10, .pointer (some ⟨g10, 0, none⟩)), (12, .int .i64 nn), (67, .int .i64 ((R : Nat) : Int)), (68, .int .i64 ((ms.length : Nat) : Int))]) (fun (ms, nn) w' => Ext (Mut [some gm]) wZ w' ∧ Blk w' gm 3 (jx ms R).toArray ∧ Greedy f Q2 ms ∧ ms.length ≤ R ∧ f.params ≤ nn ∧ (∀ x ∈ ms, x < nn) ∧ (nn = f.params ∨ ∃ x ∈ ms, nn = x + 1)) (fun (ms, _) => R - ms.length) ([], f.params) ⟨rfl, rfl, rfl, rfl, rfl, rfl, rfl, trivial⟩ (⟨by rw [hwZ]; exact Ext.refl _ _, by rw [← hwZ]; exact hz0, Greedy.nil, Nat.zero_le _, Int.le_refl _, fun x h => (by cases h), Or.inl rfl⟩) ?_)))))))))))))))))
    rintro ⟨ms, nn⟩ w10 ⟨hEm, hBm, hG, hmR, hn1', hn2', hn3'⟩;refine srx (za rfl (yu rfl rfl (rnx (zp (zw rfl (fun hi => ?_) (fun hi => ?_))))))
    ·
     have hi := of_decide_eq_true hi;have hiR : ms.length < R := by omega
     have hg1m : g1 ≠ gm := by have := B2.lt; omega
     have B1m := B1f.ext hEm (fun h => hg1m (qh h));refine zt (zj (zp (yb (srx (mvx rfl (anx rfl (zp (srx (mvx rfl (za rfl (zd Tryd.underlying27 rfl sz3 (by decide) rfl (za rfl (zg Tryd.underlying3 rfl rfl B1m rfl (za rfl (yu rfl rfl (rnx (zw rfl (fun hp => ?_) (fun hp => ?_))))))))))))))))))
     ·
      have hp := of_decide_eq_true hp
      refine srx (mvx rfl (mvx rfl (mvx rfl (za rfl (zi (j := ms.length) Tryd.underlying28 sz3 rfl rfl rfl hiR (vw (qy sz3 rfl rfl hBm rfl rfl (by rw [List.size_toArray, zmq hmR]; omega) (show _ = (jx (ms ++ [((ms.length : Nat) : Int)]) R).toArray from by rw [← zmk hiR, Nat.zero_add, List.setIfInBounds_toArray]) ?_)))))));rintro wY Bs Es
      have hG2 : Greedy f Q2 (ms ++ [((ms.length : Nat) : Int)]) := hG.add (fun _ => rfl) (fun h => absurd h (by omega));have hn4 : ∀ x ∈ ms ++ [((ms.length : Nat) : Int)], x < nn := fun x hx => by
       rcases List.mem_append.1 hx with hx | hx
       · exact hn2' x hx
       · rw [List.mem_singleton.1 hx]; omega
      have hn5 : nn = f.params ∨ ∃ x ∈ ms ++ [((ms.length : Nat) : Int)], nn = x + 1 := hn3'.imp id fun ⟨x, h1, h2⟩ => ⟨x, List.mem_append_left _ h1, h2⟩
      refine rnx (qj (zm (yc (zj (zv (za rfl (yq rfl rfl (zq (by omega)) (mvx rfl (yt (ew_set 68 (.int .i64 (((ms ++ [((ms.length : Nat) : Int)]).length : Nat) : Int)) rfl ((by rw [List.length_append]; rfl : (.int .i64 (((ms.length : Nat) : Int) + 1) : Value) = _)) ?_))))))))))
      exact yp (ms ++ [((ms.length : Nat) : Int)], nn) (by show R - (ms ++ [((ms.length : Nat) : Int)]).length < R - ms.length; rw [List.length_append, List.length_singleton]; omega) ⟨rfl, rfl, rfl, rfl, rfl, rfl, rfl, trivial⟩ (⟨hEm.step Es (fun i h => Or.inl h), Bs, hG2, by rw [List.length_append, List.length_singleton]; omega, hn1', hn4, hn5⟩)
     ·
      have hp := of_decide_eq_false hp;have hN0 : 0 < f.ins.length := List.length_pos_iff.2 hne;obtain ⟨row, hrow⟩ : ∃ row, W[0]? = some row := ⟨_, List.getElem?_eq_getElem (by rw [hW.1]; exact hN0)⟩;have hr64 := hW.2 row (List.mem_of_getElem? hrow);have hil2 : ms.length / 64 < row.length := by rw [hr64.1, ← hwn]; omega
      obtain ⟨x0, hx0⟩ : ∃ x0, row[ms.length / 64]? = some x0 := ⟨_, List.getElem?_eq_getElem hil2⟩;have hx064 := hr64.2 x0 (List.mem_of_getElem? hx0);have hAm : RowsW b0 w10 AL W := hAf.low (X := Mut [some gm]) ⟨hEm, fun k hk => by have := qh hk; omega⟩;obtain ⟨gL, oL, hAL, hgL, BL, cB, hU, hcL⟩ := RowS.at hAm hrow;obtain ⟨gU, oU, hAU, hgU, hcU⟩ := hU.cell hx0
      have hbit0 : vb W 0 ms.length = x0.testBit (ms.length % 64) := by
       unfold vb jj;rw [List.getD_eq_getElem?_getD (i := 0), hrow, Option.getD_some, List.getD_eq_getElem?_getD, hx0]; rfl
      refine zt (zj (srx (anx rfl (zp (srx (mvx rfl (za rfl (zi (j := 0) Tryd.underlying52 sz55 (congrArg (fun z ↦ some (Value.slice z f.ins.length cL)) hAL) rfl rfl hN0 (za rfl (zr Tryd.underlying55 rfl rfl hcL (mvx rfl (za rfl (xm rfl rfl (by decide) (show IntKind.i64.wrap (((ms.length : Nat) : Int).tdiv 64) = ((ms.length / 64 : Nat) : Int) from by rw [Int.tdiv_eq_ediv_of_nonneg (by omega)]; exact zq (by omega)) (za rfl (zi (j := ms.length / 64) Tryd.underlying55 kq (congrArg (fun z ↦ some (Value.slice z row.length cB)) hAU) rfl rfl hil2 (za rfl (zr Tryd.underlying35 rfl rfl hcU (mvx rfl (za rfl (xl rfl rfl (by decide) (show (((ms.length : Nat) : Int).tmod 64) = ((ms.length % 64 : Nat) : Int) from by rw [Int.tmod_eq_emod_of_nonneg (by omega)]; rfl) (za rfl (ow_shr rfl rfl (by omega) (zov (by omega)) (za rfl (ja rfl rfl (kb (y := 1) (by rw [Nat.shiftRight_eq_div_pow]; exact Nat.lt_of_le_of_lt (Nat.div_le_self _ _) hx064) (by decide)) (za rfl (qk rfl rfl (rnx ?_)))))))))))))))))))))))))))
      obtain ⟨wV, hwV⟩ : ∃ wV, wV = w10 := ⟨_, rfl⟩
      refine cw_join (ι := Int) (fun least => [(1, .pointer (some ⟨g1, 0, none⟩)), (5, .slice AL f.ins.length cL), (7, .slice (some ⟨gm, 0, none⟩) R R), (10, .pointer (some ⟨g10, 0, none⟩)), (12, .int .i64 nn), (13, .int .i64 ((ms.length : Nat) : Int)), (14, .int .i64 least), (67, .int .i64 ((R : Nat) : Int)), (68, .int .i64 ((ms.length : Nat) : Int))]) (fun least w' => wV = w' ∧ (least = 0 ∨ least = f.params) ∧ (Liv f 0 ms.length → least = f.params)) ?_ ?_
      ·
       refine zw rfl (fun q7 => ?_) (fun q7 => ?_)
       ·
        rw [xg, ← hbit0] at q7;refine zv (za rfl (zd Tryd.underlying27 rfl sz3 (by decide) rfl (za rfl (zg Tryd.underlying3 rfl rfl B1m rfl (avx rfl (yt ?_))))));exact xu f.params ⟨rfl, rfl, rfl, rfl, rfl, rfl, rfl, rfl, rfl, trivial⟩ (⟨hwV, Or.inr rfl, fun _ => rfl⟩)
       ·
        rw [xg, ← hbit0] at q7;have q7 : ¬ Liv f 0 ms.length := fun h => by rw [(hL 0 _).2 h] at q7; cases q7
        refine zt ?_;exact xu 0 ⟨rfl, rfl, rfl, rfl, rfl, rfl, rfl, rfl, rfl, trivial⟩ (⟨hwV, Or.inl rfl, fun h => absurd h q7⟩)
      ·
       rintro least w12 ⟨hwv, hle0, hleL⟩;rw [hwV] at hwv;have hwv := hwv.symm;subst hwv;have hgm10 : gm < g10 := by omega
       have C10m := C10.ext hEm (fun h => by have := qh h; omega);have hQm := hQB.ext hEm (fun h => by have := qh h; omega) (fun g hg h => by have := qh h; have := hgs g hg; omega);obtain ⟨gw, hgw, hrw, hbw, h64, hcw⟩ := hQm.get (i := ms.length) (by omega);have hin : ∀ x ∈ ms, I64 x := fun x hx => by
        obtain ⟨r, hr, e⟩ := List.getElem_of_mem hx;have := hG.le hp0 (List.getElem?_eq_getElem hr);unfold I64;omega
       have hl65 : 0 ≤ least ∧ least ≤ 65536 := by rcases hle0 with h | h <;> omega
       obtain ⟨row2, hrow2⟩ : ∃ row2, row2 = Q2.getD ms.length [] := ⟨_, rfl⟩;rw [← hrow2] at hrw hbw h64;have hrl2 : row2.length = n := h64.1;obtain ⟨NN, hNN⟩ : ∃ NN, NN = gw + gm + 1 := ⟨_, rfl⟩;refine zp (xv gh (oa 12 rfl ?_));refine vg (No) Mut.none_ [] [] (xt [Fx.of (.slice (some ⟨gm, 0, none⟩) R R),
        Fx.of (.int .i64 ((ms.length : Nat) : Int)),
        Fx.of (.slice (some ⟨go, 0, none⟩) R R),
        Fx.of (.int .i64 ((ms.length : Nat) : Int)),
        Fx.of (.pointer (some ⟨go, 0 + ms.length, none⟩)),
        Fx.of (.slice (some ⟨gw, 0, none⟩) row2.length n),
        Fx.of (.slice (some ⟨gm, 0, none⟩) R R),
        Fx.of (.int .i64 ((ms.length : Nat) : Int)),
        Fx.of (.slice (some ⟨gm, 0, none⟩) ms.length R),
        Fx.of (.int .i64 least),
        ⟨Int, fun pp => .int .i64 pp, fun pp b => (FreeP row2 ms least pp)⟩,
        Fx.of (.pointer (some ⟨gm, 0 + ms.length, none⟩))]) rfl trivial (fun _ h => by cases h) ?_ ?_
       · refine ⟨?_, ?_, ?_, ?_, ?_, ?_, ?_, ?_, ?_, ?_, ?_, ?_, trivial⟩
         · intro vs X wq K;exact zh rfl ⟨Below.refl _ _, Left.of rfl⟩
         · intro vs X wq K;exact zh rfl ⟨Below.refl _ _, Left.of rfl⟩
         · intro vs X wq K;have LE := K.1;exact zr Tryd.underlying52 rfl rfl (((qx LE C10m).cell 0).trans rfl) ⟨Below.refl _ _, Left.of rfl⟩
         · intro vs X wq K;exact zh rfl ⟨Below.refl _ _, Left.of rfl⟩
         · intro vs X wq K;obtain ⟨_, e2, k2⟩ := K.dep 2 rfl rfl rfl;refine zf 95 (.slice (some ⟨go, 0, none⟩) R R) rfl e2 ?_;obtain ⟨_, e3, k3⟩ := K.dep 3 rfl rfl rfl;refine zf 96 (.int .i64 ((ms.length : Nat) : Int)) rfl e3 ?_;exact zi (j := ms.length) Tryd.underlying52 sz55 rfl rfl rfl hiR ⟨Below.refl _ _, Left.of rfl⟩
         · intro vs X wq K;have LE := K.1;obtain ⟨_, e4, k4⟩ := K.dep 4 rfl rfl rfl;refine zf 97 (.pointer (some ⟨go, 0 + ms.length, none⟩)) rfl e4 ?_;exact zr Tryd.underlying55 rfl rfl (by rw [Nat.zero_add, hrl2]; exact ziq LE hcw) ⟨Below.refl _ _, Left.of rfl⟩
         · intro vs X wq K;exact zh rfl ⟨Below.refl _ _, Left.of rfl⟩
         · intro vs X wq K;exact zh rfl ⟨Below.refl _ _, Left.of rfl⟩
         · intro vs X wq K;obtain ⟨_, e6, k6⟩ := K.dep 6 rfl rfl rfl;refine zf 99 (.slice (some ⟨gm, 0, none⟩) R R) rfl e6 ?_;obtain ⟨_, e7, k7⟩ := K.dep 7 rfl rfl rfl;refine zf 100 (.int .i64 ((ms.length : Nat) : Int)) rfl e7 ?_;exact ow_sliceH Tryd.underlying28 sz3 rfl rfl rfl (by omega) ⟨Below.refl _ _, Left.of rfl⟩
         · intro vs X wq K;exact zh rfl ⟨Below.refl _ _, Left.of rfl⟩
         · intro vs X wq K;have LE := K.1;obtain ⟨_, e5, k5⟩ := K.dep 5 rfl rfl rfl;refine zf 98 (.slice (some ⟨gw, 0, none⟩) row2.length n) rfl e5 ?_;obtain ⟨_, e8, k8⟩ := K.dep 8 rfl rfl rfl;refine zf 101 (.slice (some ⟨gm, 0, none⟩) ms.length R) rfl e8 ?_;obtain ⟨_, e9, k9⟩ := K.dep 9 rfl rfl rfl
           refine zf 102 (.int .i64 least) rfl e9 (yj en26 rfl ((free_any _ _ _ n R NN row2 ms (u64_blk (qx LE hbw) h64 hn1 (by omega)) (ints_fill (qx LE hBm) (by omega) hin (by omega)) least hl65.1 hl65.2 (by rw [hrl2]; omega)).mono ?_));rintro e w2 ⟨pp, rfl, hFP, hb⟩;exact ⟨_, rfl, hb, ⟨pp, rfl, (fun _ _ => hFP)⟩⟩
         · intro vs X wq K;obtain ⟨_, e0, k0⟩ := K.dep 0 rfl rfl rfl;refine zf 93 (.slice (some ⟨gm, 0, none⟩) R R) rfl e0 ?_;obtain ⟨_, e1, k1⟩ := K.dep 1 rfl rfl rfl;refine zf 94 (.int .i64 ((ms.length : Nat) : Int)) rfl e1 ?_;exact zi (j := ms.length) Tryd.underlying28 sz3 rfl rfl rfl hiR ⟨Below.refl _ _, Left.of rfl⟩
       intro vs w13 LE AO AL AF AA;have hbd : Below (w12).heap.size (w12) w13 := (((Ext.refl No (w12)).drew).trans LE).toBelow;obtain ⟨pp, e10, k10⟩ := AL.2.2.2.2.2.2.2.2.2.2.1;obtain ⟨_, e11, k11⟩ := AL.2.2.2.2.2.2.2.2.2.2.2.1;have Wc10 := k10.here
       refine vx (τ := [(1, _), (5, _), (7, _), (10, _), (12, _), (13, _), (67, _), (68, _), (103, .int .i64 pp), (104, .pointer (some ⟨gm, 0 + ms.length, none⟩))]) ⟨rfl, rfl, rfl, rfl, rfl, rfl, rfl, rfl, congrArg some e10, congrArg some e11, trivial⟩ ?_;clear AL AF AA AO;refine zhv (jz (by kernel_rfl) (fun _ _ d_ _ _ h => by cases d_ <;> exact h) ?_);change Int at pp
       have hbn := Ext.of_below hbd No;have hBm2 := hBm.ext hbn (fun h => h.elim);refine vw (qy sz3 rfl rfl hBm2 rfl rfl (by rw [List.size_toArray, zmq hmR]; omega) (show _ = (jx (ms ++ [pp]) R).toArray from by rw [← zmk hiR, Nat.zero_add, List.setIfInBounds_toArray]) ?_);rintro wY Bs Es;have hFP : FreeP row2 ms least pp := Wc10
       have hG2 : Greedy f Q2 (ms ++ [pp]) := hG.add (fun h => absurd h (by omega)) (fun _ => ⟨least, hle0, hleL, hrow2 ▸ hFP⟩);have hpa : (ms ++ [pp])[ms.length]? = some pp := by simp
       have hpb := hG2.le hp0 hpa;refine rnx (zv (mvx rfl (mvx rfl (mvx rfl (za rfl (zi (j := ms.length) Tryd.underlying28 sz3 rfl rfl rfl hiR (za rfl (zg Tryd.underlying3 rfl rfl Bs (by rw [Nat.zero_add, List.getElem?_toArray]; exact fillV_at hpa) ?_))))))));obtain ⟨mx, hmx⟩ : ∃ mx, mx = if pp + 1 > nn then pp + 1 else nn := ⟨_, rfl⟩
       refine za rfl (yq rfl rfl (zq (by omega)) (za rfl (ow_max rfl rfl (avx rfl (yt (zl (zj (zv (za rfl (yq rfl rfl (zq (by omega)) (mvx rfl (yt (ew_set 12 (.int .i64 mx) rfl ((by rw [hmx] : (.int .i64 (if pp + 1 > nn then pp + 1 else nn) : Value) = _)) (ew_set 68 (.int .i64 (((ms ++ [pp]).length : Nat) : Int)) rfl ((by rw [List.length_append]; rfl : (.int .i64 (((ms.length : Nat) : Int) + 1) : Value) = _)) ?_))))))))))))))
       have hmx1 : nn ≤ mx ∧ pp < mx ∧ (mx = nn ∨ mx = pp + 1) := by rw [hmx]; split <;> omega
       have hn4 : ∀ x ∈ ms ++ [pp], x < mx := fun x hx => by
        rcases List.mem_append.1 hx with hx | hx
        · have := hn2' x hx; omega
        · rw [List.mem_singleton.1 hx]; omega
       have hn5 : mx = f.params ∨ ∃ x ∈ ms ++ [pp], mx = x + 1 := by
        rcases hmx1.2.2 with h | h
        · rw [h];exact hn3'.imp id fun ⟨x, h1, h2⟩ => ⟨x, List.mem_append_left _ h1, h2⟩
        · exact Or.inr ⟨pp, by simp, h⟩
       exact yp (ms ++ [pp], mx) (by show R - (ms ++ [pp]).length < R - ms.length; rw [List.length_append, List.length_singleton]; omega) ⟨rfl, rfl, rfl, rfl, rfl, rfl, rfl, trivial⟩ (⟨(hEm.step hbn (fun _ h => h.elim)).step Es (fun i h => Or.inl h), Bs, hG2, by rw [List.length_append, List.length_singleton]; omega, by omega, hn4, hn5⟩)
    ·
     have hi := of_decide_eq_false hi;have hme : ms.length = R := by omega
     rw [fillV_full hme] at hBm;have hfin : Ext (fun k => w.heap.size ≤ k) w w10 := hEz.step hEm (fun k hk => Or.inl (show w.heap.size ≤ k by have := qh hk; omega));refine qj (zm (zm (yc (zj (srx (mvx rfl (mvx rfl (avx rfl (avx rfl (anx rfl (zy (zx (rs := [.tmp 2, .tmp 3, .tmp 4]) (vs := [_, _, _]) rfl ⟨rfl, rfl, rfl, trivial⟩ ?_))))))))))))
     exact ⟨hfin.below (fun _ h => h), fun h => (by rw [hs] at h; cases h), fun _ => ⟨gm, ms, nn, by rw [hme]; rfl, by omega, hBm, greedy_right hs hbit hG (by omega) hn1' hn2' hn3'⟩⟩
 ·
  have hs : qf f = false := by simpa using hs
  refine za rfl (yj en19 rfl ((live_no hFA hs).mono ?_));rintro e w14 ⟨rfl, hb⟩
  refine ⟨_, rfl, (mvx rfl (za rfl (qm rfl rfl (za rfl (qm rfl rfl (avx rfl (anx rfl (zp (srx (mvx rfl (za rfl (qr rfl rfl (rnx (qb rfl (srx (mvx rfl (avx rfl (avx rfl (anx rfl (zy (zc (zx (rs := [.tmp 2, .tmp 3, .tmp 4]) (vs := [_, _, _]) rfl ⟨rfl, rfl, rfl, trivial⟩ ?_))))))))))))))))))))))⟩
  exact ⟨E1.toBelow.trans (hb.mono E1.size), fun _ => rfl, fun h => by rw [hs] at h; cases h⟩
end
end Go.Proofs.YtppdgjlmeahimaaDoor
namespace Go.Proofs.YtppdgjlmeahimaaDoor
open Go.RowKit
set_option maxRecDepth 100000
attribute [local irreducible] OW RS
theorem right3 {w : World} {p : Pl} {n g : Nat} {a b c : Int} {r : Bool} (hF : FnA n w p thrF) (hb : Blk w g 3 #[.int .i64 a, .int .i64 b, .int .i64 c]) (hi : I64 a ∧ I64 b ∧ I64 c) (hr : r = true ↔     ko thrF [a, b, c] 2) (hD : DbT w) :
 Calls Tryd.prog 9 #[fnV p thrF, .slice (some ⟨g, 0, none⟩) 3 3, .int .i64 2] w fun e w' => e = .returned (.bool r) ∧ Below w.heap.size w w' :=
 (right_any w p thrF n hF (some ⟨g, 0, none⟩) 3 w.heap.size [a, b, c] (ints_of_blk (xs := [a, b, c]) hb hb.lt (by show 8 * 3 ≤ 140737488355000; decide) (fun x hx => by
  simp only [List.mem_cons, List.not_mem_nil, or_false] at hx
  rcases hx with rfl | rfl | rfl
  · exact hi.1
  · exact hi.2.1
  · exact hi.2.2)) 2 (by decide) (Nat.le_refl _) hD).mono fun e w' ⟨q, he, hq, hb⟩ => by
  obtain rfl : q = r := by
   cases q <;> cases r
   · rfl
   · exact absurd (hq.2 (hr.1 rfl)) (by decide)
   · exact absurd (hr.2 (hq.1 rfl)) (by decide)
   · rfl
  exact ⟨he, hb⟩
theorem assign3 {w : World} {p : Pl} {n : Nat} (hF : FnA n w p thrF) (hD : DbT w) : Calls Tryd.prog 11 #[fnV p thrF] w fun e w' => ∃ gm x y z m, e = .returned (.tuple #[.slice (some ⟨gm, 0, none⟩) 3 3, .int .i64 m, .int .i64 0]) ∧ Blk w' gm 3 #[.int .i64 x, .int .i64 y, .int .i64 z] ∧ (x != y) = true ∧ 2 ≤ m ∧ Below w.heap.size w w' :=
 (assign_any w p thrF n hF hD).mono fun e w' ⟨hb, _, h⟩ => by
  obtain ⟨gm, ms, m, he, _, hbm, hR⟩ := h thr_sound;obtain ⟨h3, h2, x, y, hx, hy, hxy⟩ := thr_any hR;match ms, h3 with
  | [a, b, c], _ =>
   obtain rfl := Option.some.inj hx;obtain rfl := Option.some.inj hy;exact ⟨gm, _, _, c, m, he, hbm, bne_iff_ne.2 hxy, h2, hb⟩
theorem known_any (w : World) (hD : DbT w) : Calls Tryd.prog 8 #[] w fun e w' => e = .returned (.bool true) ∧ Below w.heap.size w w' := by
 refine qp Tryd.func8 rfl Tryd.ntmps8 rfl ?_;have HF : Per (No) w (fun _ => True) := Per.true_;have LW := erx (No) w;have XLW := grx (No) w;have E := erx (No) w;replace HF := HF.on E;replace LW := LW.step E XLW;replace E := erx (No) w;replace HF := HF.and (Per.dbT hD (fun _ h => h.elim));refine srx (anx rfl (srx (za rfl (yj en18 rfl ((zkk _).mono ?_)))))
 rintro e w1 ⟨h3, h5, rfl, h0, _, _, hb⟩;refine ⟨_, rfl, ?_⟩;replace E := blx E hb;replace HF := HF.on E;replace LW := LW.step E XLW;replace E := erx (No) w1;replace HF := HF.and (Per.thrB h0 (fun h => h.elim) (fun h => h.elim));refine za rfl (yj en11 rfl ((assign3 (ThrB.fn (HF.on E).here.2) (HF.on E).here.1.2).mono ?_));rintro e w2 ⟨gm, x, y, z, m, rfl, hbm, hxy, hm2, hb⟩
 refine ⟨_, rfl, ?_⟩;replace E := blx E hb;replace HF := HF.on E;replace LW := LW.step E XLW;replace E := erx (No) w2;replace HF := HF.and (Per.blkN hbm NotIn.nil);refine mvx rfl (za rfl (qm rfl rfl (za rfl (qm rfl rfl (za rfl (qm rfl rfl (avx rfl (avx rfl (anx rfl (zp ?_))))))))))
 have OY : ∀ q9, (Mut (outM [])) q9 → q9 < (World.drew w2).heap.size → (No) q9 := fun k h _ => (Mut.none_) k h;refine ziz (No) Mut.none_ [] [] (xt [Fx.of (.int .i64 0),
  Fx.of (.bool true),
  Fx.of (.bool true),
  Fx.of (.slice (some ⟨gm, 0, none⟩) 3 3),
  Fx.of (.int .i64 3),
  Fx.of (.bool true),
  Fx.of (.bool true),
  Fx.of (.bool true),
  Fx.of (.slice (some ⟨gm, 0, none⟩) 3 3),
  Fx.of (.pointer (some ⟨gm, 0 + 0, none⟩)),
  Fx.of (.int .i64 x),
  Fx.of (.slice (some ⟨gm, 0, none⟩) 3 3),
  Fx.of (.pointer (some ⟨gm, 0 + 1, none⟩)),
  Fx.of (.int .i64 y),
  Fx.of (.bool true),
  Fx.of (.bool true),
  Fx.of (.bool true),
  Fx.of (.int .i64 m),
  Fx.of (.bool true),
  Fx.of (.bool true),
  Fx.of (.bool true),
  ⟨(Nat × Nat), fun (p1, n1) => fnV (thrP p1 n1) thrF, fun (p1, n1) b => (ThrB b p1 n1)⟩,
  ⟨Nat, fun g1 => .slice (some ⟨g1, 0, none⟩) 3 3, fun g1 b => (Blk b g1 3 #[.int .i64 0, .int .i64 1, .int .i64 0])⟩,
  Fx.of (.bool true),
  Fx.of (.bool true),
  Fx.of (.bool true),
  ⟨(Nat × Nat), fun (p2, n2) => fnV (thrP p2 n2) thrF, fun (p2, n2) b => (ThrB b p2 n2)⟩,
  ⟨Nat, fun g2 => .slice (some ⟨g2, 0, none⟩) 3 3, fun g2 b => (Blk b g2 3 #[.int .i64 0, .int .i64 0, .int .i64 1])⟩,
  Fx.of (.bool false),
  Fx.of (.bool true),
  Fx.of (.bool true),
  Fx.of (.bool true)]) gh rfl trivial (fun _ h => by cases h) ?_ ?_
 · refine ⟨?_, ?_, ?_, ?_, ?_, ?_, ?_, ?_, ?_, ?_, ?_, ?_, ?_, ?_, ?_, ?_, ?_, ?_, ?_, ?_, ?_, ?_, ?_, ?_, ?_, ?_, ?_, ?_, ?_, ?_, ?_, ?_, trivial⟩
   · intro vs X wq K;exact zh rfl ⟨Below.refl _ _, Left.of rfl⟩
   · intro vs X wq K;obtain ⟨_, e0, k0⟩ := K.dep 0 rfl rfl rfl;refine zf 10 (.int .i64 0) rfl e0 ?_;exact qk rfl rfl ⟨Below.refl _ _, Left.of rfl⟩
   · intro vs X wq K;obtain ⟨_, e1, k1⟩ := K.dep 1 rfl rfl rfl;refine zf 11 (.bool true) rfl e1 ?_;exact zh rfl ⟨Below.refl _ _, Left.of rfl⟩
   · intro vs X wq K;obtain ⟨_, e2, k2⟩ := K.dep 2 rfl rfl rfl;refine zf 12 (.bool true) rfl e2 ?_;exact vi rfl (zh rfl ⟨Below.refl _ _, Left.of rfl⟩)
   · intro vs X wq K;obtain ⟨_, e3, k3⟩ := K.dep 3 rfl rfl rfl;refine zf 13 (.slice (some ⟨gm, 0, none⟩) 3 3) rfl e3 ?_;obtain ⟨_, e2, k2⟩ := K.dep 2 rfl rfl rfl;refine zf 12 (.bool true) rfl e2 ?_;exact vi rfl (qg Tryd.underlying28 rfl ⟨Below.refl _ _, Left.of (by kernel_rfl : (.int .i64 (3 : Nat) : Value) = _)⟩)
   · intro vs X wq K;obtain ⟨_, e4, k4⟩ := K.dep 4 rfl rfl rfl;refine zf 14 (.int .i64 3) rfl e4 ?_;obtain ⟨_, e2, k2⟩ := K.dep 2 rfl rfl rfl;refine zf 12 (.bool true) rfl e2 ?_;exact vi rfl (qk rfl rfl ⟨Below.refl _ _, Left.of rfl⟩)
   · intro vs X wq K;obtain ⟨_, e2, k2⟩ := K.dep 2 rfl rfl rfl;refine zf 12 (.bool true) rfl e2 ?_;obtain ⟨_, e5, k5⟩ := K.dep 5 rfl rfl rfl;refine zf 15 (.bool true) rfl e5 ?_;exact zn rfl rfl ⟨Below.refl _ _, Left.of rfl⟩
   · intro vs X wq K;obtain ⟨_, e6, k6⟩ := K.dep 6 rfl rfl rfl;refine zf 16 (.bool true) rfl e6 ?_;exact zh rfl ⟨Below.refl _ _, Left.of rfl⟩
   · intro vs X wq K;obtain ⟨_, e7, k7⟩ := K.dep 7 rfl rfl rfl;refine zf 17 (.bool true) rfl e7 ?_;exact vi rfl (zh rfl ⟨Below.refl _ _, Left.of rfl⟩)
   · intro vs X wq K;obtain ⟨_, e8, k8⟩ := K.dep 8 rfl rfl rfl;refine zf 18 (.slice (some ⟨gm, 0, none⟩) 3 3) rfl e8 ?_;obtain ⟨_, e7, k7⟩ := K.dep 7 rfl rfl rfl;refine zf 17 (.bool true) rfl e7 ?_;exact vi rfl (zi (j := 0) Tryd.underlying28 sz3 rfl rfl rfl (by decide) ⟨Below.refl _ _, Left.of rfl⟩)
   · intro vs X wq K;have LE := K.1;obtain ⟨_, e9, k9⟩ := K.dep 9 rfl rfl rfl;refine zf 19 (.pointer (some ⟨gm, 0 + 0, none⟩)) rfl e9 ?_;obtain ⟨_, e7, k7⟩ := K.dep 7 rfl rfl rfl;refine zf 17 (.bool true) rfl e7 ?_;exact vi rfl (zr Tryd.underlying3 rfl rfl ((((HF.on (E.drew.trans (LE.mono OY))).here.2).cell 0).trans rfl) ⟨Below.refl _ _, Left.of rfl⟩)
   · intro vs X wq K;obtain ⟨_, e7, k7⟩ := K.dep 7 rfl rfl rfl;refine zf 17 (.bool true) rfl e7 ?_;exact vi rfl (zh rfl ⟨Below.refl _ _, Left.of rfl⟩)
   · intro vs X wq K;obtain ⟨_, e11, k11⟩ := K.dep 11 rfl rfl rfl;refine zf 21 (.slice (some ⟨gm, 0, none⟩) 3 3) rfl e11 ?_;obtain ⟨_, e7, k7⟩ := K.dep 7 rfl rfl rfl;refine zf 17 (.bool true) rfl e7 ?_;exact vi rfl (zi (j := 1) Tryd.underlying28 sz3 rfl rfl rfl (by decide) ⟨Below.refl _ _, Left.of rfl⟩)
   · intro vs X wq K;have LE := K.1;obtain ⟨_, e12, k12⟩ := K.dep 12 rfl rfl rfl;refine zf 22 (.pointer (some ⟨gm, 0 + 1, none⟩)) rfl e12 ?_;obtain ⟨_, e7, k7⟩ := K.dep 7 rfl rfl rfl;refine zf 17 (.bool true) rfl e7 ?_;exact vi rfl (zr Tryd.underlying3 rfl rfl ((((HF.on (E.drew.trans (LE.mono OY))).here.2).cell 1).trans rfl) ⟨Below.refl _ _, Left.of rfl⟩)
   · intro vs X wq K;obtain ⟨_, e10, k10⟩ := K.dep 10 rfl rfl rfl;refine zf 20 (.int .i64 x) rfl e10 ?_;obtain ⟨_, e13, k13⟩ := K.dep 13 rfl rfl rfl;refine zf 23 (.int .i64 y) rfl e13 ?_;obtain ⟨_, e7, k7⟩ := K.dep 7 rfl rfl rfl;refine zf 17 (.bool true) rfl e7 ?_;exact vi rfl (qr rfl rfl ⟨Below.refl _ _, Left.of ((by rw [hxy] : (.bool (x != y) : Value) = _))⟩)
   · intro vs X wq K;obtain ⟨_, e7, k7⟩ := K.dep 7 rfl rfl rfl;refine zf 17 (.bool true) rfl e7 ?_;obtain ⟨_, e14, k14⟩ := K.dep 14 rfl rfl rfl;refine zf 24 (.bool true) rfl e14 ?_;exact zn rfl rfl ⟨Below.refl _ _, Left.of rfl⟩
   · intro vs X wq K;obtain ⟨_, e15, k15⟩ := K.dep 15 rfl rfl rfl;refine zf 25 (.bool true) rfl e15 ?_;exact zh rfl ⟨Below.refl _ _, Left.of rfl⟩
   · intro vs X wq K;obtain ⟨_, e16, k16⟩ := K.dep 16 rfl rfl rfl;refine zf 26 (.bool true) rfl e16 ?_;exact vi rfl (zh rfl ⟨Below.refl _ _, Left.of rfl⟩)
   · intro vs X wq K;obtain ⟨_, e17, k17⟩ := K.dep 17 rfl rfl rfl;refine zf 27 (.int .i64 m) rfl e17 ?_;obtain ⟨_, e16, k16⟩ := K.dep 16 rfl rfl rfl;refine zf 26 (.bool true) rfl e16 ?_;exact vi rfl (gz rfl rfl ⟨Below.refl _ _, Left.of ((by rw [decide_eq_true hm2] : (.bool (decide (2 ≤ m)) : Value) = _))⟩)
   · intro vs X wq K;obtain ⟨_, e16, k16⟩ := K.dep 16 rfl rfl rfl;refine zf 26 (.bool true) rfl e16 ?_;obtain ⟨_, e18, k18⟩ := K.dep 18 rfl rfl rfl;refine zf 28 (.bool true) rfl e18 ?_;exact zn rfl rfl ⟨Below.refl _ _, Left.of rfl⟩
   · intro vs X wq K;obtain ⟨_, e19, k19⟩ := K.dep 19 rfl rfl rfl;refine zf 29 (.bool true) rfl e19 ?_;exact zh rfl ⟨Below.refl _ _, Left.of rfl⟩
   · intro vs X wq K;have XN := K.2.1;obtain ⟨_, e20, k20⟩ := K.dep 20 rfl rfl rfl;refine zf 30 (.bool true) rfl e20 (vi rfl (yj en18 rfl ((zkk _).mono ?_)));rintro e w2 ⟨p1, n1, rfl, h1, h2, h3, hb⟩;exact ⟨_, rfl, hb, ⟨(p1, n1), rfl, Per.thrB h1 (fun hx => by have := XN p1 hx; omega) (fun hx => by have := XN n1 hx; omega)⟩⟩
   · intro vs X wq K;have XN := K.2.1;obtain ⟨_, e20, k20⟩ := K.dep 20 rfl rfl rfl;refine zf 30 (.bool true) rfl e20 (vi rfl (vm (cs := #[.int .i64 0, .int .i64 1, .int .i64 0]) Tryd.underlying28 sz3 zr3 (by decide) rfl (by rw [yr]; rfl) ?_));intro g1 w5 Bs hb Gs;exact ⟨hb, ⟨g1, rfl, Per.blk Bs (fun hx => by have := XN g1 hx; omega)⟩⟩
   · intro vs X wq K;have LE := K.1;obtain ⟨⟨p1, n1⟩, e21, k21⟩ := K.dep 21 rfl rfl rfl;refine zf 31 (fnV (thrP p1 n1) thrF) rfl e21 ?_;obtain ⟨g1, e22, k22⟩ := K.dep 22 rfl rfl rfl;refine zf 32 (.slice (some ⟨g1, 0, none⟩) 3 3) rfl e22 ?_;obtain ⟨_, e20, k20⟩ := K.dep 20 rfl rfl rfl
     refine zf 30 (.bool true) rfl e20 (vi rfl (yj en9 rfl ((right3 (ThrB.fn k21.here) k22.here (by decide) (r := true) ⟨fun _ => thr_yes, fun _ => rfl⟩ (HF.on (E.drew.trans (LE.mono OY))).here.1.1.2).mono ?_)));rintro e w2 ⟨rfl, hb⟩;exact ⟨_, rfl, hb, Left.of rfl⟩
   · intro vs X wq K;obtain ⟨_, e20, k20⟩ := K.dep 20 rfl rfl rfl;refine zf 30 (.bool true) rfl e20 ?_;obtain ⟨_, e23, k23⟩ := K.dep 23 rfl rfl rfl;refine zf 33 (.bool true) rfl e23 ?_;exact zn rfl rfl ⟨Below.refl _ _, Left.of rfl⟩
   · intro vs X wq K;obtain ⟨_, e24, k24⟩ := K.dep 24 rfl rfl rfl;refine zf 34 (.bool true) rfl e24 ?_;exact zh rfl ⟨Below.refl _ _, Left.of rfl⟩
   · intro vs X wq K;have XN := K.2.1;obtain ⟨_, e25, k25⟩ := K.dep 25 rfl rfl rfl;refine zf 35 (.bool true) rfl e25 (vi rfl (yj en18 rfl ((zkk _).mono ?_)));rintro e w2 ⟨p2, n2, rfl, h1, h2, h3, hb⟩;exact ⟨_, rfl, hb, ⟨(p2, n2), rfl, Per.thrB h1 (fun hx => by have := XN p2 hx; omega) (fun hx => by have := XN n2 hx; omega)⟩⟩
   · intro vs X wq K;have XN := K.2.1;obtain ⟨_, e25, k25⟩ := K.dep 25 rfl rfl rfl;refine zf 35 (.bool true) rfl e25 (vi rfl (vm (cs := #[.int .i64 0, .int .i64 0, .int .i64 1]) Tryd.underlying28 sz3 zr3 (by decide) rfl (by rw [yr]; rfl) ?_));intro g2 w5 Bs hb Gs;exact ⟨hb, ⟨g2, rfl, Per.blk Bs (fun hx => by have := XN g2 hx; omega)⟩⟩
   · intro vs X wq K;have LE := K.1;obtain ⟨⟨p2, n2⟩, e26, k26⟩ := K.dep 26 rfl rfl rfl;refine zf 36 (fnV (thrP p2 n2) thrF) rfl e26 ?_;obtain ⟨g2, e27, k27⟩ := K.dep 27 rfl rfl rfl;refine zf 37 (.slice (some ⟨g2, 0, none⟩) 3 3) rfl e27 ?_;obtain ⟨_, e25, k25⟩ := K.dep 25 rfl rfl rfl
     refine zf 35 (.bool true) rfl e25 (vi rfl (yj en9 rfl ((right3 (ThrB.fn k26.here) k27.here (by decide) (r := false) ⟨fun h => (by cases h), fun h => absurd h thr_no⟩ (HF.on (E.drew.trans (LE.mono OY))).here.1.1.2).mono ?_)));rintro e w2 ⟨rfl, hb⟩;exact ⟨_, rfl, hb, Left.of rfl⟩
   · intro vs X wq K;obtain ⟨_, e28, k28⟩ := K.dep 28 rfl rfl rfl;refine zf 38 (.bool false) rfl e28 ?_;obtain ⟨_, e25, k25⟩ := K.dep 25 rfl rfl rfl;refine zf 35 (.bool true) rfl e25 ?_;exact vi rfl (oo rfl ⟨Below.refl _ _, Left.of rfl⟩)
   · intro vs X wq K;obtain ⟨_, e25, k25⟩ := K.dep 25 rfl rfl rfl;refine zf 35 (.bool true) rfl e25 ?_;obtain ⟨_, e29, k29⟩ := K.dep 29 rfl rfl rfl;refine zf 39 (.bool true) rfl e29 ?_;exact zn rfl rfl ⟨Below.refl _ _, Left.of rfl⟩
   · intro vs X wq K;obtain ⟨_, e30, k30⟩ := K.dep 30 rfl rfl rfl;refine zf 40 (.bool true) rfl e30 ?_;exact ym rfl ⟨Below.refl _ _, Left.of rfl⟩
 intro vs w3 LE AO AL AF AA;replace E := E.drew.trans (LE.mono OY);obtain ⟨_, e31, k31⟩ := AL.2.2.2.2.2.2.2.2.2.2.2.2.2.2.2.2.2.2.2.2.2.2.2.2.2.2.2.2.2.2.2.1;refine vx (τ := [(0, .bool true)]) ⟨congrArg some e31, trivial⟩ ?_;clear AL AF AA LE AO OY e31 k31;refine zj (zy (zx (rs := [.tmp 0]) (vs := [_]) rfl ⟨rfl, trivial⟩ ?_));exact ⟨rfl, (LW.step E XLW).toBelow⟩
end Go.Proofs.YtppdgjlmeahimaaDoor
namespace Go.Proofs.YtppdgjlmeahimaaDoor
open Go.RowKit
set_option maxRecDepth 100000
attribute [local irreducible] OW RS
theorem mod40 (x : Int) : ∃ r : Nat, (IntKind.u64.wrap x).tmod 40 = (r : Int) ∧ r < 40 := by
 have h : 0 ≤ IntKind.u64.wrap x := by
  unfold IntKind.wrap;simp only [IntKind.bits, IntKind.signed, Bool.false_and, Bool.false_eq_true, if_false]
  omega
 refine ⟨((IntKind.u64.wrap x).tmod 40).toNat, ?_, ?_⟩ <;> rw [Int.tmod_eq_emod_of_nonneg h] <;> omega
def rowA (n j : Nat) : Nat := if j = 0 then 0 else n
def rowM (n k j : Nat) : Nat := if j = 0 then n else k
def rowC (n k j : Nat) : Nat := if j = 0 then 0 else if j = 1 then n + 1 else n + k + 2
section
variable {n k j : Nat} (hj : j < 2)
include hj
theorem row_con {i : Nat} (hi : i < rowM n k j) : apI n k (rowC n k j + i) = gg (rowA n j + i) := by
 obtain rfl | rfl : j = 0 ∨ j = 1 := by omega
 · have hi : i < n := hi;show apI n k (0 + i) = gg (0 + i)
   unfold apI; rw [if_pos (by omega)]
 · have hi : i < k := hi;show apI n k (n + 1 + i) = gg (n + i)
   unfold apI; rw [if_neg (by omega), if_neg (by omega), if_pos (by omega), show n + 1 + i - 1 = n + i by omega]
theorem row_lst : apI n k (rowC n k j + rowM n k j) = kz (n + k) (rowA n j) (rowM n k j) := by
 obtain rfl | rfl : j = 0 ∨ j = 1 := by omega
 · show apI n k (0 + n) = kz (n + k) 0 n
   unfold apI; rw [if_neg (by omega), if_pos (by omega)]
 · show apI n k (n + 1 + k) = kz (n + k) n k
   unfold apI; rw [if_neg (by omega), if_neg (by omega), if_neg (by omega), if_pos (by omega)]
theorem row_next : rowC n k (j + 1) = rowC n k j + rowM n k j + 1 := by
 obtain rfl | rfl : j = 0 ∨ j = 1 := by omega
 · show n + 1 = 0 + n + 1; omega
 · show n + k + 2 = n + 1 + k + 1; omega
end
theorem upto_i64 {a m : Nat} (h : a + m < 1000000) : ∀ y ∈ oc a m, I64 y := fun y hy => by have := oe.1 hy; unfold I64; omega
theorem i64_nat {d : Nat} (h : d < 1000000) : I64 (d : Int) := by unfold I64; omega
theorem apI_ok {n k j : Nat} (hn : n ≤ 40) (hk : k ≤ 40) : InsI (apI n k j) ∧ 8 * (apI n k j).l.length ≤ 140737488351232 ∧ ∀ y ∈ (apI n k j).l, I64 y := by
 have h0 : I64 0 := by decide
 have h3 : I64 3 := by decide
 have h28 : I64 28 := by decide
 have h41 : I64 41 := by decide
 have hc : ∀ d, d < 1000000 → InsI (gg d) ∧ 8 * (gg d).l.length ≤ 140737488351232 ∧ ∀ y ∈ (gg d).l, I64 y := fun d hd => ⟨⟨h3, i64_nat hd, h0, h0, h0, h0⟩, by show 8 * 0 ≤ 140737488351232; decide, fun y hy => by cases hy⟩
 have hl : ∀ d a m, d < 1000000 → a + m < 1000000 → InsI (kz d a m) ∧ 8 * (kz d a m).l.length ≤ 140737488351232 ∧ ∀ y ∈ (kz d a m).l, I64 y := fun d a m hd ha => ⟨⟨h28, i64_nat hd, h0, h0, h0, h0⟩, by show 8 * (oc a m).length ≤ _; rw [upto_len]; omega, upto_i64 ha⟩;unfold apI;split
 · exact hc _ (by omega)
 · split
   · exact hl _ _ _ (by omega) (by omega)
   · split
     · exact hc _ (by omega)
     · split
       · exact hl _ _ _ (by omega) (by omega)
       · exact ⟨⟨h41, h0, i64_nat (by omega), h0, h0, h0⟩, by show 8 * 0 ≤ 140737488351232; decide, fun y hy => by cases hy⟩
theorem assign_ap {w : World} {pl : Pl} {n k n0 : Nat} (hn : n ≤ 40) (hk : k ≤ 40) (hF : FnA n0 w pl (apF n k)) (hD : DbT w) : Calls Tryd.prog 11 #[fnV pl (apF n k)] w fun e w' => ∃ gm ms p, e = .returned (.tuple #[.slice (some ⟨gm, 0, none⟩) (n + k + 2) (n + k + 2), .int .i64 p, .int .i64 0]) ∧ Blk w' gm 3 (   yl ms).toArray ∧     ko (apF n k) ms p ∧ Below w.heap.size w w' :=
 (assign_any w pl (apF n k) n0 hF hD).mono fun e w' ⟨hb, _, h⟩ => by
  obtain ⟨gm, ms, p, he, _, hbm, hR⟩ := h (ap_sound (by omega) (by omega));have hl := (ap_apart (by omega) (by omega) hR).1;exact ⟨gm, ms, p, by rw [← hl]; exact he, hbm, hR, hb⟩
theorem xr {ms : List Int} {i : Nat} {x : Int} (h : ms[i]? = some x) : (yl ms).toArray[0 + i]? = some (.int .i64 x) := by
 rw [Nat.zero_add, List.getElem?_toArray];unfold yl;rw [List.getElem?_map, h]; rfl
theorem apart_law (w : World) (i0 i1 : Int) (h0 : I64 i0) (h1 : I64 i1) (hD : DbT w) : Calls Tryd.prog 5 #[.int .i64 i0, .int .i64 i1] w fun e w' => e = .returned (.bool true) ∧ Below w.heap.size w w' := by
 have _ := h0;have _ := h1;obtain ⟨r0, hr0, hr0'⟩ := mod40 i0;obtain ⟨r1, hr1, hr1'⟩ := mod40 i1;obtain ⟨n, hn⟩ : ∃ n, n = 1 + r0 := ⟨_, rfl⟩;obtain ⟨k, hk⟩ : ∃ k, k = 1 + r1 := ⟨_, rfl⟩;obtain ⟨b, hb0⟩ : ∃ b, b = w.heap.size := ⟨_, rfl⟩;refine qp Tryd.func5 rfl Tryd.ntmps5 rfl (srx (anx rfl (zp (srx (za rfl (yj en8 rfl ((known_any _ hD).mono ?_)))))));rintro e w1 ⟨rfl, hb⟩
 refine ⟨_, rfl, ?_⟩;have E1 := Ext.of_below hb No
 refine za rfl (oo rfl (rnx (vf rfl (zt (zj (srx (mvx rfl (za rfl (zgq Tryd.underlying35 Tryd.underlying3 rfl rfl (za rfl (xl rfl rfl (by decide) hr0 (za rfl (zgq Tryd.underlying3 Tryd.underlying35 rfl (zq (by omega)) (za rfl (yq rfl rfl (zq (by omega)) (anx rfl (srx (mvx rfl (qt 5 (.int .i64 ((n : Nat) : Int)) rfl ((by rw [hn]; rfl : (.int .i64 (1 + ((r0 : Nat) : Int)) : Value) = _)) (za rfl (zgq Tryd.underlying35 Tryd.underlying3 rfl rfl (za rfl (xl rfl rfl (by decide) hr1 (za rfl (zgq Tryd.underlying3 Tryd.underlying35 rfl (zq (by omega)) (za rfl (yq rfl rfl (zq (by omega)) (anx rfl (srx (mvx rfl (mvx rfl (za rfl (yq rfl rfl (zq (by omega)) (za rfl (yq rfl rfl (zq (by omega)) (za rfl (vz (cs := #[.int .i64 1, .string ⟨#[49]⟩]) pl37 zr37 rfl rfl (qt 6 (.int .i64 ((k : Nat) : Int)) rfl ((by rw [hk]; rfl : (.int .i64 (1 + ((r1 : Nat) : Int)) : Value) = _)) (qt 34 (.int .i64 ((n + k + 2 : Nat) : Int)) rfl ((by rw [hn, hk]; rfl : (.int .i64 ((((n : Nat) : Int) + (1 + ((r1 : Nat) : Int))) + 2) : Value) = _)) (za rfl (yk (cs := #[.int .i64 1, .string ⟨#[49]⟩]) Tryd.underlying23 sz37 zr37 (by decide) rfl (by rw [yr]; rfl) ?_)))))))))))))))))))))))))))))))))))))))))
 rintro gc wA Bc E2 Gc;refine za rfl (vz (cs := #[.string ⟨#[]⟩, .int .i64 0, .int .i64 ((n + k + 2 : Nat) : Int), .int .i64 0, .bool false, .int .i64 0, .slice none 0 0, .slice (some ⟨gc, 0, none⟩) 1 1, .slice none 0 0, .slice none 0 0]) pl27 zr27 rfl rfl (za rfl (qi zr27 ?_)));rintro gf wB Bf0 E3 Gf;refine vw (je oh rfl rfl Bf0 rfl rfl rfl ?_);rintro wC Bf E4
 have hs1 := E1.size;have hs2 := E2.size;have hs3 := E3.size;have hs4 := E4.size;obtain ⟨R, hR⟩ : ∃ R : Int, R = ((n + k + 2 : Nat) : Int) := ⟨_, rfl⟩;have hgcf : gc ≠ gf := by have := Bc.lt; omega
 have BcC := (Bc.ext E3 (fun h => h.elim)).ext E4 (fun h => hgcf (qh h));have M0 : ApM b wC.heap.size gf gc R [] none 0 wC := ⟨(by rw [hR]; exact Bf), BcC, va, fun x hx => (by cases hx), fun x hx => (by cases hx)⟩
 have hEC : Ext (fun q => b ≤ q) w wC := (((E1.mono (Y := fun q => b ≤ q) (fun _ h _ => h.elim)).step E2 (fun _ h => h.elim)).step E3 (fun _ h => h.elim)).step E4 (fun q hq => Or.inl (show b ≤ q by have := qh hq; omega))
 refine rnx (zp (srx (mvx rfl (za rfl (zlk (cs := #[.int .i64 0, .int .i64 ((n : Nat) : Int)]) Tryd.underlying38 sz3 zr38 rfl rfl (mvx rfl (mvx rfl (za rfl (zlk (cs := #[.int .i64 ((n : Nat) : Int), .int .i64 ((k : Nat) : Int)]) Tryd.underlying38 sz3 zr38 rfl rfl (za rfl (yk (cs := #[.int .i64 0, .int .i64 ((n : Nat) : Int), .int .i64 ((n : Nat) : Int), .int .i64 ((k : Nat) : Int)]) Tryd.underlying39 sz38 zr38 (by decide) rfl (by rw [yr]; rfl) ?_)))))))))))
 rintro g4 wD B4 E5 G4;have hs5 := E5.size;have hg4 := B4.lt;have hED := hEC.step E5 (fun _ h => h.elim)
 refine za rfl (qg Tryd.underlying39 rfl (qt 44 (.int .i64 2) rfl (by kernel_rfl : (.int .i64 (2 : Nat) : Value) = _) (mvx rfl (rnx (yb (qn (ι := Nat × List (LIns × Option Addr × Nat) × Option Addr × Nat) (fun (j, is, A, cap) => [(5, .int .i64 ((n : Nat) : Int)), (6, .int .i64 ((k : Nat) : Int)), (7, .pointer (some ⟨gf, 0, none⟩)), (43, .slice (some ⟨g4, 0, none⟩) 2 2), (44, .int .i64 2), (45, .int .i64 ((j : Nat) : Int))]) (fun (j, is, A, cap) w' => j ≤ 2 ∧ Ext (fun q => b ≤ q) w w' ∧ wD.heap.size ≤ w'.heap.size ∧ Blk w' g4 38 #[.int .i64 0, .int .i64 ((n : Nat) : Int), .int .i64 ((n : Nat) : Int), .int .i64 ((k : Nat) : Int)] ∧ ApM b w'.heap.size gf gc R is A cap w' ∧ is.map (·.1) = apL n k (rowC n k j)) (fun (j, _) => 2 - j) (0, [], none, 0) ⟨rfl, rfl, rfl, rfl, rfl, rfl, trivial⟩ (⟨by omega, hED, Nat.le_refl _, B4, (M0.no E5).up hs5, rfl⟩) ?_))))))
 rintro ⟨j, is, A, cap⟩ w3 ⟨hj2, hEj, hsj, B4j, Mj, hisj⟩;refine srx (za rfl (yu rfl rfl (rnx (zp (zw rfl (fun hi => ?_) (fun hi => ?_))))))
 ·
  have hi := of_decide_eq_true hi;have hj : j < 2 := by omega
  refine zt (zj (zp (yb (srx (za rfl (qc (j := j) Tryd.underlying39 sz38 rfl rfl rfl hj ?_))))));have hrow : ∀ (i : Nat) (v : Value), (#[.int .i64 ((rowA n j : Nat) : Int), .int .i64 ((rowM n k j : Nat) : Int)] : Array Value)[i]? = some v → w3.cell? ⟨g4, 0 + j * 2 + i, none⟩ = some v := fun i v hv => by
   rw [B4j.cell];obtain rfl | rfl : j = 0 ∨ j = 1 := by omega
   · match i, hv with
     | 0, hv => exact hv
     | 1, hv => exact hv
     | i + 2, hv => simp at hv
   · match i, hv with
     | 0, hv => exact hv
     | 1, hv => exact hv
     | i + 2, hv => simp at hv
  refine za rfl (kg (cs := #[.int .i64 ((rowA n j : Nat) : Int), .int .i64 ((rowM n k j : Nat) : Int)]) Tryd.underlying38 rfl sz38 rfl rfl hrow ?_);obtain ⟨a, ha⟩ : ∃ a, a = rowA n j := ⟨_, rfl⟩;obtain ⟨m, hm⟩ : ∃ m, m = rowM n k j := ⟨_, rfl⟩;obtain ⟨cj, hcj⟩ : ∃ cj, cj = rowC n k j := ⟨_, rfl⟩;rw [← hcj] at hisj;refine za rfl (qi zr38 ?_);rintro gr wE Br0 E6 Gr
  refine vw (je sz38 rfl rfl Br0 rfl rfl rfl ?_);rintro wF Br E7;have hs6 := E6.size;have hs7 := E7.size;have hgr := Br0.lt;have hG4r : g4 ≠ gr := by have := B4j.lt; omega
  have Br : Blk wF gr 38 #[.int .i64 ((a : Nat) : Int), .int .i64 ((m : Nat) : Int)] := by rw [ha, hm]; exact Br
  have M7 : ApM b wF.heap.size gf gc R is A cap wF := by
   have h := (Mj.no E6).up (b3 := wF.heap.size) (by omega);exact ⟨ziv h.f Br0 (by decide) E7, ziv h.c Br0 (by decide) E7, vk h.i Br0 (by decide) E7, fun x hx => vk (h.l x hx) Br0 (by decide) E7, h.lt⟩
  have B47 := (B4j.ext E6 (fun h => h.elim)).ext E7 (fun h => hG4r (qh h));have hEF := (hEj.step E6 (fun _ h => h.elim)).step E7 (fun q hq => Or.inl (show b ≤ q by have := qh hq; omega));have ham : a ≤ 40 ∧ m ≤ 40 ∧ cj ≤ 41 := by
   rw [ha, hm, hcj]; unfold rowA rowM rowC;refine ⟨?_, ?_, ?_⟩ <;> (repeat' split) <;> omega
  refine rnx (srx (anx rfl (zp (srx (anx rfl (yb (qn (ι := Nat × List (LIns × Option Addr × Nat) × Option Addr × Nat × Option Addr × Nat) (fun (i, is, A, cap, Al, cl) => [(5, .int .i64 ((n : Nat) : Int)), (6, .int .i64 ((k : Nat) : Int)), (7, .pointer (some ⟨gf, 0, none⟩)), (9, .pointer (some ⟨gr, 0, none⟩)), (10, .slice Al i cl), (11, .int .i64 ((i : Nat) : Int)), (43, .slice (some ⟨g4, 0, none⟩) 2 2), (44, .int .i64 2), (45, .int .i64 ((j : Nat) : Int))]) (fun (i, is, A, cap, Al, cl) w' => i ≤ m ∧ Ext (fun q => b ≤ q) w w' ∧ wF.heap.size ≤ w'.heap.size ∧ Blk w' g4 38 #[.int .i64 0, .int .i64 ((n : Nat) : Int), .int .i64 ((n : Nat) : Int), .int .i64 ((k : Nat) : Int)] ∧ Blk w' gr 38 #[.int .i64 ((a : Nat) : Int), .int .i64 ((m : Nat) : Int)] ∧ ApM b wF.heap.size gf gc R is A cap w' ∧ is.map (·.1) = apL n k (cj + i) ∧ w'.ownsRow wF.heap.size 3 1 (.slice Al i cl) i (yl (oc a i))) (fun (i, _) => m - i) (0, is, A, cap, none, 0) ⟨rfl, rfl, rfl, rfl, rfl, rfl, rfl, rfl, rfl, trivial⟩ (⟨Nat.zero_le _, hEF, Nat.le_refl _, B47, Br, M7, hisj, va⟩) ?_)))))))
  rintro ⟨i, is, A, cap, Al, cl⟩ w5 ⟨him, hEi, hsi, B4i, Bri, Mi, hisi, Oi⟩;have hisl : is.length = cj + i := by have h := congrArg List.length hisi; rwa [List.length_map, zjx] at h
  refine zp (srx (mvx rfl (za rfl (gk (j := 1) Tryd.underlying38 sz3 rfl rfl rfl (by decide) (za rfl (zg Tryd.underlying3 rfl rfl Bri rfl (za rfl (yu rfl rfl (rnx (zw rfl (fun hi => ?_) (fun hi => ?_)))))))))))
  ·
   have hi := of_decide_eq_true hi;have hilt : i < m := by omega
   refine zt (zj (zp (yb (srx (za rfl (zd Tryd.underlying27 rfl kr (by decide) rfl (za rfl (zg Tryd.underlying24 rfl rfl Mi.f rfl (za rfl (gk (j := 0) Tryd.underlying38 sz3 rfl rfl rfl (by decide) (za rfl (zg Tryd.underlying3 rfl rfl Bri rfl (mvx rfl (za rfl (yq rfl rfl (zq (by omega)) (za rfl (vz (cs := #[.int .i64 3, .int .i64 (((a : Nat) : Int) + ((i : Nat) : Int)), .int .i64 0, .int .i64 0, .int .i64 0, .int .i64 0, .slice none 0 0]) pl41 zr41 rfl rfl (qt 61 (.agg #[.int .i64 3, .int .i64 ((a + i : Nat) : Int), .int .i64 0, .int .i64 0, .int .i64 0, .int .i64 0, .slice none 0 0]) rfl (rfl) (za rfl (yk (cs := #[.int .i64 3, .int .i64 ((a + i : Nat) : Int), .int .i64 0, .int .i64 0, .int .i64 0, .int .i64 0, .slice none 0 0]) Tryd.underlying24 gb zr41 (by decide) rfl (fill1x7 (.int .i64 3) (.int .i64 ((a + i : Nat) : Int)) (.int .i64 0) (.int .i64 0) (.int .i64 0) (.int .i64 0) (.slice none 0 0)) ?_))))))))))))))))))))
   rintro gx wG Bx E8 Gx;have M8 := Mi.no E8;have hs8 := E8.size;refine za rfl (xo (xs' := kw is ++ od (gg (a + i)) none 0) Tryd.underlying24 inf41 rfl (by decide) rfl M8.i rfl (xi Bx Bx.lt rfl) (by simp [Value.oneCell']) rfl rfl (by unfold maxLen; omega) (by omega) (by have := hEi.size; omega) ?_);rintro A1 c1 wH O1 E9 N1;have Bf1 := vd M8.f M8.i (by decide) E9
   have hs9 := E9.size;refine za rfl (zd Tryd.underlying27 rfl kr (by decide) rfl (vw (qy (cs' := fcs R gc A1 (is.length + 1) c1) kr rfl rfl Bf1 rfl rfl (Nat.le_of_ble_eq_true rfl) rfl ?_)));rintro wI Bs E10;have hs10 := E10.size
   have M10 : ApM b wF.heap.size gf gc R (is ++ [(gg (a + i), none, 0)]) A1 c1 wI := ApM.put M8 (is_none rfl) (fun g h => by cases h) O1 E9 Bs E10;have O8 := jq Oi E8 (fun _ _ h => h.elim);have O9 := xk O8 M8.i (by decide) E9;have O10 := vk O9 Bf1 (by decide) E10;have B410 := ziv (vd (B4i.ext E8 (fun h => h.elim)) M8.i (by decide) E9) Bf1 (by decide) E10
   have Br10 := ziv (vd (Bri.ext E8 (fun h => h.elim)) M8.i (by decide) E9) Bf1 (by decide) E10;have hgfb : b ≤ gf := by omega
   have hE10 := ((hEi.step E8 (fun _ h => h.elim)).step E9 (fun q hq => Or.inl (show b ≤ q from own_ge M8.i q hq))).step E10 (fun q hq => Or.inl (show b ≤ q by have := qh hq; omega))
   refine rnx (zv (mvx rfl (za rfl (gk (j := 0) Tryd.underlying38 sz3 rfl rfl rfl (by decide) (za rfl (zg Tryd.underlying3 rfl rfl Br10 rfl (mvx rfl (za rfl (yq rfl rfl (zq (by omega)) (qt 69 (.int .i64 ((a + i : Nat) : Int)) rfl (rfl) (za rfl (yk (cs := #[.int .i64 ((a + i : Nat) : Int)]) Tryd.underlying28 sz3 zr3 (by decide) rfl (by rw [yr]; rfl) ?_))))))))))))
   rintro gy wJ By E11 Gy;have hs11 := E11.size;have O11 := jq O10 E11 (fun _ _ h => h.elim);refine za rfl (xo (xs' := yl (oc a (i + 1))) Tryd.underlying28 inf3 rfl (by decide) rfl O11 rfl (xi By By.lt rfl) (by simp [Value.oneCell']) rfl (by rw [upto_succ]; unfold yl; rw [List.map_append]; rfl) (by unfold maxLen; omega) (by omega) (by omega) ?_)
   rintro A2 c2 wK O12 E12 N2;have hs12 := E12.size;refine avx rfl (yt (zl (zj (zv (mvx rfl (za rfl (yq rfl rfl (zq (by omega)) (avx rfl (yt ?_)))))))))
   exact yp (i + 1, is ++ [(gg (a + i), none, 0)], A1, c1, A2, c2) (by show m - (i + 1) < m - i; omega) ⟨rfl, rfl, rfl, rfl, rfl, rfl, rfl, rfl, rfl, trivial⟩ (⟨hilt, (hE10.step E11 (fun _ h => h.elim)).step E12 (fun q hq => Or.inl (show b ≤ q from by have := own_ge O11 q hq; have := hEF.size; omega)), by omega, vd (B410.ext E11 (fun h => h.elim)) O11 (by decide) E12, vd (Br10.ext E11 (fun h => h.elim)) O11 (by decide) E12, (M10.no E11).ints O11 E12, by rw [List.map_append, hisi, ← Nat.add_assoc, apL_succ, hcj, row_con hj (by rw [← hm]; exact hilt), ← ha]; rfl, O12⟩)
  ·
   have hi := of_decide_eq_false hi;have hie : i = m := by omega
   subst hie
   refine qj (zm (zm (yc (zj (zv (za rfl (zd Tryd.underlying27 rfl kr (by decide) rfl (za rfl (zg Tryd.underlying24 rfl rfl Mi.f rfl (mvx rfl (mvx rfl (za rfl (yq rfl rfl (zq (by omega)) (mvx rfl (za rfl (vz (cs := #[.int .i64 28, .int .i64 (((n : Nat) : Int) + ((k : Nat) : Int)), .int .i64 0, .int .i64 0, .int .i64 0, .int .i64 0, .slice Al i cl]) pl41 zr41 rfl rfl (qt 78 (.agg #[.int .i64 28, .int .i64 ((n + k : Nat) : Int), .int .i64 0, .int .i64 0, .int .i64 0, .int .i64 0, .slice Al i cl]) rfl (rfl) (za rfl (yk (cs := #[.int .i64 28, .int .i64 ((n + k : Nat) : Int), .int .i64 0, .int .i64 0, .int .i64 0, .int .i64 0, .slice Al i cl]) Tryd.underlying24 gb zr41 (by decide) rfl (fill1x7 (.int .i64 28) (.int .i64 ((n + k : Nat) : Int)) (.int .i64 0) (.int .i64 0) (.int .i64 0) (.int .i64 0) (.slice Al i cl)) ?_)))))))))))))))))))
   rintro gx wG Bx E8 Gx;have hs8 := E8.size;have M8 := (Mi.no E8).up (b3 := wG.heap.size) (by omega);have O8 := jq Oi E8 (fun _ _ h => h.elim);have hul : (oc a i).length = i := upto_len a i
   refine za rfl (xo (xs' := kw is ++ od (kz (n + k) a i) Al cl) Tryd.underlying24 inf41 rfl (by decide) rfl M8.i rfl (xi Bx Bx.lt rfl) (by simp [Value.oneCell']) rfl (by unfold od kz; rw [hul]) (by unfold maxLen; omega) (by omega) (by have := hEi.size; omega) ?_);rintro A1 c1 wH O1 E9 N1;have Bf1 := vd M8.f M8.i (by decide) E9;have hs9 := E9.size
   refine za rfl (zd Tryd.underlying27 rfl kr (by decide) rfl (vw (qy (cs' := fcs R gc A1 (is.length + 1) c1) kr rfl rfl Bf1 rfl rfl (Nat.le_of_ble_eq_true rfl) rfl ?_)));rintro wI Bs E10;have hs10 := E10.size
   have M10 : ApM b wG.heap.size gf gc R (is ++ [(kz (n + k) a i, Al, cl)]) A1 c1 wI := ApM.put M8 (by show wG.ownsRow b 3 1 (.slice Al (oc a i).length cl) (oc a i).length (yl (oc a i)); rw [hul]; exact owns_base O8 (by have := hEF.size; omega)) (fun g h => zpk O8 g (by rw [← h]; show _ = (Value.slice Al (oc a i).length cl).ownBlock; rw [hul])) O1 E9 Bs E10
   have B410 := ziv (vd (B4i.ext E8 (fun h => h.elim)) M8.i (by decide) E9) Bf1 (by decide) E10;have hE10 := ((hEi.step E8 (fun _ h => h.elim)).step E9 (fun q hq => Or.inl (show b ≤ q from own_ge M8.i q hq))).step E10 (fun q hq => Or.inl (show b ≤ q by have := qh hq; omega))
   refine yt (zl (zj (zv (za rfl (yq rfl rfl (zq (by omega)) (mvx rfl (yt ?_)))))))
   exact yp (j + 1, is ++ [(kz (n + k) a i, Al, cl)], A1, c1) (by show 2 - (j + 1) < 2 - j; omega) ⟨rfl, rfl, rfl, rfl, rfl, rfl, trivial⟩ (⟨hj, hE10, by omega, B410, M10.up (by omega), by rw [List.map_append, hisi, row_next hj, apL_succ, ← hm, ← hcj, hcj, hm, row_lst hj, ← hm, ← ha]; rfl⟩)
 ·
  have hi := of_decide_eq_false hi;have hje : j = 2 := by omega
  subst hje;have hisl : is.length = n + k + 2 := by have h := congrArg List.length hisj; rw [List.length_map, zjx] at h; exact h
  refine qj (zm (zm (yc (zj (srx (za rfl (zd Tryd.underlying27 rfl kr (by decide) rfl (za rfl (zg Tryd.underlying24 rfl rfl Mj.f rfl (mvx rfl (mvx rfl (za rfl (yq rfl rfl (zq (by omega)) (za rfl (vz (cs := #[.int .i64 41, .int .i64 0, .int .i64 (((n : Nat) : Int) + ((k : Nat) : Int)), .int .i64 0, .int .i64 0, .int .i64 0, .slice none 0 0]) pl41 zr41 rfl rfl (qt 88 (.agg #[.int .i64 41, .int .i64 0, .int .i64 ((n + k : Nat) : Int), .int .i64 0, .int .i64 0, .int .i64 0, .slice none 0 0]) rfl (rfl) (za rfl (yk (cs := #[.int .i64 41, .int .i64 0, .int .i64 ((n + k : Nat) : Int), .int .i64 0, .int .i64 0, .int .i64 0, .slice none 0 0]) Tryd.underlying24 gb zr41 (by decide) rfl (fill1x7 (.int .i64 41) (.int .i64 0) (.int .i64 ((n + k : Nat) : Int)) (.int .i64 0) (.int .i64 0) (.int .i64 0) (.slice none 0 0)) ?_))))))))))))))))))
  rintro gx wG Bx E8 Gx;have hs8 := E8.size;have M8 := (Mj.no E8).up hs8;refine za rfl (xo (xs' := kw is ++ od (retI (n + k)) none 0) Tryd.underlying24 inf41 rfl (by decide) rfl M8.i rfl (xi Bx Bx.lt rfl) (by simp [Value.oneCell']) rfl rfl (by unfold maxLen; omega) (by omega) (by have := hEj.size; omega) ?_);rintro A1 c1 wH O1 E9 N1
  have Bf1 := vd M8.f M8.i (by decide) E9;have hs9 := E9.size;refine za rfl (zd Tryd.underlying27 rfl kr (by decide) rfl (vw (qy (cs' := fcs R gc A1 (is.length + 1) c1) kr rfl rfl Bf1 rfl rfl (Nat.le_of_ble_eq_true rfl) rfl ?_)));rintro wI Bs E10;have hs10 := E10.size
  have M10 : ApM b wG.heap.size gf gc R (is ++ [(retI (n + k), none, 0)]) A1 c1 wI := ApM.put M8 (is_none rfl) (fun g h => by cases h) O1 E9 Bs E10;have hE10 := ((hEj.step E8 (fun _ h => h.elim)).step E9 (fun q hq => Or.inl (show b ≤ q from own_ge M8.i q hq))).step E10 (fun q hq => Or.inl (show b ≤ q by have := qh hq; omega))
  have hall : (is ++ [((retI (n + k), none, 0) : LIns × Option Addr × Nat)]).map (·.1) = apL n k (n + k + 3) := by
   rw [List.map_append, hisj, show n + k + 3 = (n + k + 2) + 1 from rfl, apL_succ];have : apI n k (n + k + 2) = retI (n + k) := by unfold apI; rw [if_neg (by omega), if_neg (by omega), if_neg (by omega), if_neg (by omega)]
   rw [this]; rfl
  have hall2 : (is ++ [((retI (n + k), none, 0) : LIns × Option Addr × Nat)]).length = n + k + 3 := by rw [List.length_append, hisl]; rfl
  have hF : FnA wI.heap.size wI ⟨none, 0, some ⟨gc, 0, none⟩, 1, A1, c1, none, 0⟩ (apF n k) := M10.fn (by rw [hall, hR]; rfl) (by rw [hR]; unfold I64; omega) (by rw [hall2]; omega) (by rw [hall2]; omega) (fun x hx => by
   have h1 : x.1 ∈ apL n k (n + k + 3) := by rw [← hall]; exact List.mem_map_of_mem hx
   obtain ⟨q, hq⟩ := List.mem_iff_getElem?.1 h1;rw [(apL_at hq).2];exact apI_ok (by omega) (by omega))
  have hDI : DbT wI := fun q y hy => Low.cell (n := w.heap.size) (X := fun q => b ≤ q) ⟨hE10, fun _ h => by rw [hb0] at h; exact h⟩ (World.block_lt_of_cell? w _ (hD q y hy)) (hD q y hy);have hlen1 : (apF n k).ins.length = is.length + 1 := by show (apL n k (n + k + 3)).length = _; rw [zjx, hisl]
  refine rnx (srx (za rfl (qa Tryd.underlying27 rfl oh rfl Bs rfl (qt 93 (fnV ⟨none, 0, some ⟨gc, 0, none⟩, 1, A1, c1, none, 0⟩ (apF n k)) rfl ((by unfold fnV fcs; rw [hlen1, hR]; rfl : (.agg (fcs R gc A1 (is.length + 1) c1) : Value) = _)) (za rfl (yj en11 rfl ((assign_ap (by omega) (by omega) hF hDI).mono ?_)))))));rintro e w6 ⟨gm, ms, p, rfl, hbm, hRP, hb⟩
  refine ⟨_, rfl, ?_⟩;obtain ⟨hml, hpn, hpk, hpr, hap1, hap2⟩ := ap_apart (by omega) (by omega) hRP;have hEL := hE10.step (Ext.of_below hb No) (fun _ h => h.elim);have BsL : Blk w6 gf 27 (fcs R gc A1 (is.length + 1) c1) := Bs.ext (Ext.of_below hb No) (fun h => h.elim);obtain ⟨wM, hwM⟩ : ∃ wM, wM = w6 := ⟨_, rfl⟩;rw [← hwM] at hbm hEL
  refine mvx rfl (za rfl (qm rfl rfl (za rfl (qm rfl rfl (za rfl (qm rfl rfl (avx rfl (avx rfl (anx rfl (zp (srx (mvx rfl (za rfl (qr rfl rfl (mvx rfl (onx rfl (zh rfl (onx rfl (qg Tryd.underlying28 rfl (onx rfl (zd Tryd.underlying27 rfl sz3 (by decide) rfl (onx rfl (zg Tryd.underlying3 rfl rfl BsL rfl (onx rfl (qr rfl rfl (qt 105 (.bool false) rfl ((by rw [hR, bne_self_eq_false] : (.bool (((n + k + 2 : Nat) : Int) != R) : Value) = _)) (za rfl (ya rfl rfl (mvx rfl (onx rfl (zh rfl (onx rfl (zh rfl (onx rfl (zh rfl (onx rfl (ow_max rfl rfl ?_)))))))))))))))))))))))))))))))))))))
  obtain ⟨mx, hmx⟩ : ∃ mx : Int, mx = if ((k : Nat) : Int) > ((n : Nat) : Int) then ((k : Nat) : Int) else ((n : Nat) : Int) := ⟨_, rfl⟩
  have hmx2 : mx ≤ p := by rw [hmx]; split <;> omega
  refine qt 111 (.int .i64 mx) rfl ((by rw [hmx] : (.int .i64 (if ((k : Nat) : Int) > ((n : Nat) : Int) then ((k : Nat) : Int) else ((n : Nat) : Int)) : Value) = _)) (onx rfl (yu rfl rfl (qt 112 (.bool false) rfl ((by rw [decide_eq_false]; omega : (.bool (decide (p < mx)) : Value) = _)) (za rfl (ya rfl rfl (mvx rfl (onx rfl (zh rfl (onx rfl (zd Tryd.underlying27 rfl sz3 (by decide) rfl (onx rfl (zg Tryd.underlying3 rfl rfl BsL rfl (onx rfl (xn rfl rfl (qt 118 (.bool false) rfl ((by rw [decide_eq_false]; omega : (.bool (decide (R < p)) : Value) = _)) (za rfl (ya rfl rfl (rnx (vf rfl (zt (zj (zp (srx (anx rfl (yb (qn (ι := Nat) (fun i => [(5, .int .i64 ((n : Nat) : Int)), (6, .int .i64 ((k : Nat) : Int)), (12, .slice (some ⟨gm, 0, none⟩) (n + k + 2) (n + k + 2)), (15, .int .i64 ((i : Nat) : Int))]) (fun i w' => 0 ≤ i ∧ i ≤ n ∧ Ext No wM w') (fun i => n - i) 0 ⟨rfl, rfl, rfl, rfl, trivial⟩ (⟨Nat.le_refl _, by omega, by first | exact Ext.refl _ _ | exact hwM ▸ Ext.refl _ _⟩) ?_))))))))))))))))))))))))))
  rintro i w8 ⟨hi0, hin, hEi⟩;refine zp (srx (mvx rfl (mvx rfl (za rfl (yu rfl rfl (rnx (zw rfl (fun hi => ?_) (fun hi => ?_))))))))
  ·
   have hi := of_decide_eq_true hi;have hin : i < n := by omega
   obtain ⟨x, hx⟩ : ∃ x, ms[i]? = some x := ⟨_, List.getElem?_eq_getElem (by omega)⟩
   refine zt (zj (zp (yb (srx (anx rfl (yb (qn (ι := Nat) (fun q => [(5, .int .i64 ((n : Nat) : Int)), (6, .int .i64 ((k : Nat) : Int)), (12, .slice (some ⟨gm, 0, none⟩) (n + k + 2) (n + k + 2)), (15, .int .i64 ((i : Nat) : Int)), (16, .int .i64 ((q : Nat) : Int))]) (fun q w' => 0 ≤ q ∧ q ≤ i ∧ Ext No wM w') (fun q => i - q) 0 ⟨rfl, rfl, rfl, rfl, rfl, trivial⟩ (⟨Nat.le_refl _, hi0, hEi⟩) ?_)))))))
   rintro q w10 ⟨hq0, hqi, hEq⟩;refine zp (srx (mvx rfl (mvx rfl (za rfl (yu rfl rfl (rnx (zw rfl (fun hq => ?_) (fun hq => ?_))))))))
   ·
    have hq := of_decide_eq_true hq;have hql : q < i := by omega
    obtain ⟨y, hy⟩ : ∃ y, ms[q]? = some y := ⟨_, List.getElem?_eq_getElem (by omega)⟩;have hxy : (x == y) = false := beq_eq_false_iff_ne.2 (hap1 i q x y hql hin hx hy);have hbq := hbm.ext hEq (fun h => h.elim);refine zt (zj (zp (yb (zp ?_))));refine ziz (No) Mut.none_ [] [] (xt [Fx.of (.slice (some ⟨gm, 0, none⟩) (n + k + 2) (n + k + 2)),
     Fx.of (.int .i64 ((i : Nat) : Int)),
     Fx.of (.pointer (some ⟨gm, 0 + i, none⟩)),
     Fx.of (.int .i64 x),
     Fx.of (.slice (some ⟨gm, 0, none⟩) (n + k + 2) (n + k + 2)),
     Fx.of (.int .i64 ((q : Nat) : Int)),
     Fx.of (.pointer (some ⟨gm, 0 + q, none⟩)),
     Fx.of (.int .i64 y),
     Fx.of (.bool false)]) gh rfl trivial (fun _ h => by cases h) ?_ ?_
    · refine ⟨?_, ?_, ?_, ?_, ?_, ?_, ?_, ?_, ?_, trivial⟩
      · intro vs X wq K;exact zh rfl ⟨Below.refl _ _, Left.of rfl⟩
      · intro vs X wq K;exact zh rfl ⟨Below.refl _ _, Left.of rfl⟩
      · intro vs X wq K;obtain ⟨_, e0, k0⟩ := K.dep 0 rfl rfl rfl;refine zf 130 (.slice (some ⟨gm, 0, none⟩) (n + k + 2) (n + k + 2)) rfl e0 ?_;obtain ⟨_, e1, k1⟩ := K.dep 1 rfl rfl rfl;refine zf 131 (.int .i64 ((i : Nat) : Int)) rfl e1 ?_;exact zi (j := i) Tryd.underlying28 sz3 rfl rfl rfl (by omega) ⟨Below.refl _ _, Left.of rfl⟩
      · intro vs X wq K;have LE := K.1;obtain ⟨_, e2, k2⟩ := K.dep 2 rfl rfl rfl;refine zf 132 (.pointer (some ⟨gm, 0 + i, none⟩)) rfl e2 ?_;exact zg Tryd.underlying3 rfl rfl (qx LE hbq) (xr hx) ⟨Below.refl _ _, Left.of rfl⟩
      · intro vs X wq K;exact zh rfl ⟨Below.refl _ _, Left.of rfl⟩
      · intro vs X wq K;exact zh rfl ⟨Below.refl _ _, Left.of rfl⟩
      · intro vs X wq K;obtain ⟨_, e4, k4⟩ := K.dep 4 rfl rfl rfl;refine zf 134 (.slice (some ⟨gm, 0, none⟩) (n + k + 2) (n + k + 2)) rfl e4 ?_;obtain ⟨_, e5, k5⟩ := K.dep 5 rfl rfl rfl;refine zf 135 (.int .i64 ((q : Nat) : Int)) rfl e5 ?_;exact zi (j := q) Tryd.underlying28 sz3 rfl rfl rfl (by omega) ⟨Below.refl _ _, Left.of rfl⟩
      · intro vs X wq K;have LE := K.1;obtain ⟨_, e6, k6⟩ := K.dep 6 rfl rfl rfl;refine zf 136 (.pointer (some ⟨gm, 0 + q, none⟩)) rfl e6 ?_;exact zg Tryd.underlying3 rfl rfl (qx LE hbq) (xr hy) ⟨Below.refl _ _, Left.of rfl⟩
      · intro vs X wq K;obtain ⟨_, e3, k3⟩ := K.dep 3 rfl rfl rfl;refine zf 133 (.int .i64 x) rfl e3 ?_;obtain ⟨_, e7, k7⟩ := K.dep 7 rfl rfl rfl;refine zf 137 (.int .i64 y) rfl e7 ?_;exact qk rfl rfl ⟨Below.refl _ _, Left.of ((by rw [hxy] : (.bool (x == y) : Value) = _))⟩
    intro vs w11 LE AO AL AF AA;have hbd : Below (w10).heap.size (w10) w11 := (((Ext.refl No (w10)).drew).trans LE).toBelow;obtain ⟨_, e8, k8⟩ := AL.2.2.2.2.2.2.2.2.1;refine vx (τ := [(5, _), (6, _), (12, _), (15, _), (16, _), (138, .bool false)]) ⟨rfl, rfl, rfl, rfl, rfl, congrArg some e8, trivial⟩ ?_;clear AL AF AA AO
    refine zj (vf rfl (zt (zl (zj (zv (mvx rfl (za rfl (yq rfl rfl (zq (by omega)) (avx rfl (yt ?_))))))))));exact yp (q + 1) (by show i - (q + 1) < i - q; omega) ⟨rfl, rfl, rfl, rfl, rfl, trivial⟩ (⟨by omega, hql, hEq.trans (Ext.of_below hbd No)⟩)
   ·
    refine qj (zm (zm (yc (zl (zj (zv (mvx rfl (za rfl (yq rfl rfl (zq (by omega)) (avx rfl (yt ?_)))))))))));exact yp (i + 1) (by show n - (i + 1) < n - i; omega) ⟨rfl, rfl, rfl, rfl, trivial⟩ (⟨by omega, hin, hEq⟩)
  ·
   have hEi1 := hEi
   refine qj (zm (zm (yc (zj (zp (srx (mvx rfl (anx rfl (yb (qn (ι := Nat) (fun i => [(5, .int .i64 ((n : Nat) : Int)), (6, .int .i64 ((k : Nat) : Int)), (12, .slice (some ⟨gm, 0, none⟩) (n + k + 2) (n + k + 2)), (17, .int .i64 ((i : Nat) : Int))]) (fun i w' => n ≤ i ∧ i ≤ n + k ∧ Ext No wM w') (fun i => n + k - i) n ⟨rfl, rfl, rfl, rfl, trivial⟩ (⟨Nat.le_refl _, by omega, by first | exact Ext.refl _ _ | exact hEi1⟩) ?_))))))))))
   rintro i w13 ⟨hi0, hin, hEi⟩;refine zp (srx (mvx rfl (mvx rfl (mvx rfl (za rfl (yq rfl rfl (zq (by omega)) (za rfl (yu rfl rfl (rnx (zw rfl (fun hi => ?_) (fun hi => ?_)))))))))))
   ·
    have hi := of_decide_eq_true hi;have hin : i < n + k := by omega
    obtain ⟨x, hx⟩ : ∃ x, ms[i]? = some x := ⟨_, List.getElem?_eq_getElem (by omega)⟩
    refine zt (zj (zp (yb (srx (mvx rfl (anx rfl (yb (qn (ι := Nat) (fun q => [(5, .int .i64 ((n : Nat) : Int)), (6, .int .i64 ((k : Nat) : Int)), (12, .slice (some ⟨gm, 0, none⟩) (n + k + 2) (n + k + 2)), (17, .int .i64 ((i : Nat) : Int)), (18, .int .i64 ((q : Nat) : Int))]) (fun q w' => n ≤ q ∧ q ≤ i ∧ Ext No wM w') (fun q => i - q) n ⟨rfl, rfl, rfl, rfl, rfl, trivial⟩ (⟨Nat.le_refl _, hi0, hEi⟩) ?_))))))))
    rintro q w15 ⟨hq0, hqi, hEq⟩;refine zp (srx (mvx rfl (mvx rfl (za rfl (yu rfl rfl (rnx (zw rfl (fun hq => ?_) (fun hq => ?_))))))))
    ·
     have hq := of_decide_eq_true hq;have hql : q < i := by omega
     obtain ⟨y, hy⟩ : ∃ y, ms[q]? = some y := ⟨_, List.getElem?_eq_getElem (by omega)⟩;have hxy : (x == y) = false := beq_eq_false_iff_ne.2 (hap2 i q x y hq0 hql hin hx hy);have hbq := hbm.ext hEq (fun h => h.elim);refine zt (zj (zp (yb (zp ?_))));refine ziz (No) Mut.none_ [] [] (xt [Fx.of (.slice (some ⟨gm, 0, none⟩) (n + k + 2) (n + k + 2)),
      Fx.of (.int .i64 ((i : Nat) : Int)),
      Fx.of (.pointer (some ⟨gm, 0 + i, none⟩)),
      Fx.of (.int .i64 x),
      Fx.of (.slice (some ⟨gm, 0, none⟩) (n + k + 2) (n + k + 2)),
      Fx.of (.int .i64 ((q : Nat) : Int)),
      Fx.of (.pointer (some ⟨gm, 0 + q, none⟩)),
      Fx.of (.int .i64 y),
      Fx.of (.bool false)]) gh rfl trivial (fun _ h => by cases h) ?_ ?_
     · refine ⟨?_, ?_, ?_, ?_, ?_, ?_, ?_, ?_, ?_, trivial⟩
       · intro vs X wq K;exact zh rfl ⟨Below.refl _ _, Left.of rfl⟩
       · intro vs X wq K;exact zh rfl ⟨Below.refl _ _, Left.of rfl⟩
       · intro vs X wq K;obtain ⟨_, e0, k0⟩ := K.dep 0 rfl rfl rfl;refine zf 153 (.slice (some ⟨gm, 0, none⟩) (n + k + 2) (n + k + 2)) rfl e0 ?_;obtain ⟨_, e1, k1⟩ := K.dep 1 rfl rfl rfl;refine zf 154 (.int .i64 ((i : Nat) : Int)) rfl e1 ?_;exact zi (j := i) Tryd.underlying28 sz3 rfl rfl rfl (by omega) ⟨Below.refl _ _, Left.of rfl⟩
       · intro vs X wq K;have LE := K.1;obtain ⟨_, e2, k2⟩ := K.dep 2 rfl rfl rfl;refine zf 155 (.pointer (some ⟨gm, 0 + i, none⟩)) rfl e2 ?_;exact zg Tryd.underlying3 rfl rfl (qx LE hbq) (xr hx) ⟨Below.refl _ _, Left.of rfl⟩
       · intro vs X wq K;exact zh rfl ⟨Below.refl _ _, Left.of rfl⟩
       · intro vs X wq K;exact zh rfl ⟨Below.refl _ _, Left.of rfl⟩
       · intro vs X wq K;obtain ⟨_, e4, k4⟩ := K.dep 4 rfl rfl rfl;refine zf 157 (.slice (some ⟨gm, 0, none⟩) (n + k + 2) (n + k + 2)) rfl e4 ?_;obtain ⟨_, e5, k5⟩ := K.dep 5 rfl rfl rfl;refine zf 158 (.int .i64 ((q : Nat) : Int)) rfl e5 ?_;exact zi (j := q) Tryd.underlying28 sz3 rfl rfl rfl (by omega) ⟨Below.refl _ _, Left.of rfl⟩
       · intro vs X wq K;have LE := K.1;obtain ⟨_, e6, k6⟩ := K.dep 6 rfl rfl rfl;refine zf 159 (.pointer (some ⟨gm, 0 + q, none⟩)) rfl e6 ?_;exact zg Tryd.underlying3 rfl rfl (qx LE hbq) (xr hy) ⟨Below.refl _ _, Left.of rfl⟩
       · intro vs X wq K;obtain ⟨_, e3, k3⟩ := K.dep 3 rfl rfl rfl;refine zf 156 (.int .i64 x) rfl e3 ?_;obtain ⟨_, e7, k7⟩ := K.dep 7 rfl rfl rfl;refine zf 160 (.int .i64 y) rfl e7 ?_;exact qk rfl rfl ⟨Below.refl _ _, Left.of ((by rw [hxy] : (.bool (x == y) : Value) = _))⟩
     intro vs w16 LE AO AL AF AA;have hbd : Below (w15).heap.size (w15) w16 := (((Ext.refl No (w15)).drew).trans LE).toBelow;obtain ⟨_, e8, k8⟩ := AL.2.2.2.2.2.2.2.2.1;refine vx (τ := [(5, _), (6, _), (12, _), (17, _), (18, _), (161, .bool false)]) ⟨rfl, rfl, rfl, rfl, rfl, congrArg some e8, trivial⟩ ?_;clear AL AF AA AO
     refine zj (vf rfl (zt (zl (zj (zv (mvx rfl (za rfl (yq rfl rfl (zq (by omega)) (avx rfl (yt ?_))))))))));exact yp (q + 1) (by show i - (q + 1) < i - q; omega) ⟨rfl, rfl, rfl, rfl, rfl, trivial⟩ (⟨by omega, hql, hEq.trans (Ext.of_below hbd No)⟩)
    ·
     refine qj (zm (zm (yc (zl (zj (zv (mvx rfl (za rfl (yq rfl rfl (zq (by omega)) (avx rfl (yt ?_)))))))))));exact yp (i + 1) (by show n + k - (i + 1) < n + k - i; omega) ⟨rfl, rfl, rfl, rfl, trivial⟩ (⟨by omega, hin, hEq⟩)
   ·
    refine qj (zm (zm (yc (zj (srx (anx rfl (zy (zx (rs := [.tmp 4]) (vs := [_]) rfl ⟨rfl, trivial⟩ ?_))))))));exact ⟨rfl, (hEL.step hEi (fun _ h => h.elim)).below (fun q h => by rw [hb0] at h; exact h)⟩
end Go.Proofs.YtppdgjlmeahimaaDoor
